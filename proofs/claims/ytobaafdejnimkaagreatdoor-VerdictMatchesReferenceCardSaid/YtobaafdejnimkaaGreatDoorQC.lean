/- Texts of this claim,joined. -/
import Derived.Test.YtobaafdejnimkaaGreatDoorQB
import Derived.Test.YtobaafdejnimkaaGreatDoorProg
import Derived.KernelRfl
set_option linter.unusedSimpArgs false
set_option linter.unusedVariables false
set_option maxRecDepth 100000
set_option maxHeartbeats 4000000
namespace Go.Proofs.YtobaafdejnimkaaGreatDoor
open Tryz
open Go.PF
theorem mixed:prog.follows .mixedOrders=true:=by kernel_rfl
instance :Und prog 2 (.int .i64):=⟨underlying2⟩
instance io3:One prog 3:=⟨by kernel_rfl⟩
instance is3:Sz prog 3 1:=⟨by kernel_rfl⟩
instance :Und prog 3 (.int .i64):=⟨underlying3⟩
theorem Pb:zeroCells prog 3=some [.int .i64 0]:=by kernel_rfl
theorem EO:(prog.info? 3).bind (·.zero)=some (.int .i64 0):=by kernel_rfl
instance :One prog 4:=⟨by kernel_rfl⟩
instance is4:Sz prog 4 1:=⟨by kernel_rfl⟩
instance :Und prog 4 (.bool):=⟨underlying4⟩
theorem I6:(prog.info? 4).bind (·.zero)=some (.bool false):=by kernel_rfl
instance :One prog 5:=⟨by kernel_rfl⟩
instance :Sz prog 5 1:=⟨by kernel_rfl⟩
instance :Und prog 5 (.int .u8):=⟨underlying5⟩
instance io9:One prog 9:=⟨by kernel_rfl⟩
instance is9:Sz prog 9 1:=⟨by kernel_rfl⟩
instance :Und prog 9 (.string):=⟨underlying9⟩
instance :Und prog 21 (.int .i32):=⟨underlying21⟩
instance :One prog 22:=⟨by kernel_rfl⟩
instance :Und prog 22 (.slice 136):=⟨underlying22⟩
theorem OT:dA prog 22 136 3=true:=by kernel_rfl
instance :One prog 23:=⟨by kernel_rfl⟩
instance :Und prog 23 (.slice 9):=⟨underlying23⟩
theorem uk:dA prog 23 9 1=true:=by kernel_rfl
theorem Bi:eZ prog 23 9 1 16=true:=by kernel_rfl
instance :One prog 24:=⟨by kernel_rfl⟩
instance :Und prog 24 (.slice 138):=⟨underlying24⟩
theorem OS:dA prog 24 138 1=true:=by kernel_rfl
instance :One prog 25:=⟨by kernel_rfl⟩
instance :Und prog 25 (.slice 110):=⟨underlying25⟩
theorem OR:dA prog 25 110 7=true:=by kernel_rfl
instance :One prog 26:=⟨by kernel_rfl⟩
instance :Und prog 26 (.slice 113):=⟨underlying26⟩
theorem OQ:dA prog 26 113 6=true:=by kernel_rfl
instance :One prog 27:=⟨by kernel_rfl⟩
instance :Und prog 27 (.slice 199):=⟨underlying27⟩
instance is29:Sz prog 29 6:=⟨by kernel_rfl⟩
theorem KU:zeroCells prog 29=some [.slice none 0 0,.slice none 0 0,.slice none 0 0,.slice none 0 0,.slice none 0 0,.slice none 0 0]:=by kernel_rfl
instance :Sr prog 29 6:=⟨⟨_,underlying29⟩,is29.q⟩
instance :FO prog 29 0 0:=⟨by kernel_rfl⟩
instance :FO prog 29 1 1:=⟨by kernel_rfl⟩
instance :FO prog 29 2 2:=⟨by kernel_rfl⟩
instance :FO prog 29 3 3:=⟨by kernel_rfl⟩
instance :FO prog 29 4 4:=⟨by kernel_rfl⟩
instance :FO prog 29 5 5:=⟨by kernel_rfl⟩
instance :One prog 30:=⟨by kernel_rfl⟩
instance is30:Sz prog 30 1:=⟨by kernel_rfl⟩
instance :Und prog 30 (.slice 32):=⟨underlying30⟩
theorem MV:zeroCells prog 30=some [.slice none 0 0]:=by kernel_rfl
theorem zf:dA prog 30 32 1=true:=by kernel_rfl
theorem Eb:eZ prog 30 32 1 24=true:=by kernel_rfl
instance :One prog 31:=⟨by kernel_rfl⟩
instance is31:Sz prog 31 1:=⟨by kernel_rfl⟩
instance :Und prog 31 (.slice 60):=⟨underlying31⟩
theorem Ol:zeroCells prog 31=some [.slice none 0 0]:=by kernel_rfl
theorem qP:dA prog 31 60 4=true:=by kernel_rfl
theorem uS:eZ prog 31 60 4 48=true:=by kernel_rfl
instance :One prog 32:=⟨by kernel_rfl⟩
instance is32:Sz prog 32 1:=⟨by kernel_rfl⟩
instance :Und prog 32 (.slice 3):=⟨underlying32⟩
theorem Oj:zeroCells prog 32=some [.slice none 0 0]:=by kernel_rfl
theorem gQ:dA prog 32 3 1=true:=by kernel_rfl
theorem lF:eZ prog 32 3 1 8=true:=by kernel_rfl
theorem Og:(prog.info? 32).bind (·.zero)=some (.slice none 0 0):=by kernel_rfl
instance :One prog 33:=⟨by kernel_rfl⟩
instance :Und prog 33 (.slice 67):=⟨underlying33⟩
theorem JW:dA prog 33 67 11=true:=by kernel_rfl
instance :FO prog 35 0 0:=⟨by kernel_rfl⟩
instance :FO prog 35 1 1:=⟨by kernel_rfl⟩
instance :FO prog 35 2 2:=⟨by kernel_rfl⟩
instance :FO prog 35 4 4:=⟨by kernel_rfl⟩
instance is37:Sz prog 37 7:=⟨by kernel_rfl⟩
instance :Sr prog 37 7:=⟨⟨_,underlying37⟩,is37.q⟩
instance :FO prog 37 0 0:=⟨by kernel_rfl⟩
instance :FO prog 37 1 5:=⟨by kernel_rfl⟩
instance :FO prog 37 2 6:=⟨by kernel_rfl⟩
instance :One prog 38:=⟨by kernel_rfl⟩
instance is42:Sz prog 42 2:=⟨by kernel_rfl⟩
theorem uP:zeroCells prog 42=some [.int .i64 0,.int .i64 0]:=by kernel_rfl
instance :Sr prog 42 2:=⟨⟨_,underlying42⟩,is42.q⟩
instance :FO prog 42 0 0:=⟨by kernel_rfl⟩
instance :FO prog 42 1 1:=⟨by kernel_rfl⟩
instance :One prog 43:=⟨by kernel_rfl⟩
instance :Und prog 43 (.int .i64):=⟨underlying43⟩
instance :One prog 54:=⟨by kernel_rfl⟩
instance is54:Sz prog 54 1:=⟨by kernel_rfl⟩
instance :Und prog 54 (.slice 58):=⟨underlying54⟩
theorem Oi:zeroCells prog 54=some [.slice none 0 0]:=by kernel_rfl
theorem Md:dA prog 54 58 2=true:=by kernel_rfl
theorem LY:eZ prog 54 58 2 16=true:=by kernel_rfl
instance is58:Sz prog 58 2:=⟨by kernel_rfl⟩
theorem MU:zeroCells prog 58=some [.int .i64 0,.int .i64 0]:=by kernel_rfl
instance :Sr prog 58 2:=⟨⟨_,underlying58⟩,is58.q⟩
instance :FO prog 58 0 0:=⟨by kernel_rfl⟩
instance :FO prog 58 1 1:=⟨by kernel_rfl⟩
instance is60:Sz prog 60 4:=⟨by kernel_rfl⟩
theorem nY:zeroCells prog 60=some [.int .i64 0,.int .i64 0,.int .i64 0,.slice none 0 0]:=by kernel_rfl
instance :Sr prog 60 4:=⟨⟨_,underlying60⟩,is60.q⟩
instance :FO prog 60 0 0:=⟨by kernel_rfl⟩
instance :FO prog 60 1 1:=⟨by kernel_rfl⟩
instance :FO prog 60 2 2:=⟨by kernel_rfl⟩
instance :FO prog 60 3 3:=⟨by kernel_rfl⟩
instance is63:Sz prog 63 8:=⟨by kernel_rfl⟩
theorem KT:zeroCells prog 63=some [.string ByteArray.empty,.int .i64 0,.int .i64 0,.int .i64 0,.int .i64 0,.int .i64 0,.int .i64 0,.int .i64 0]:=by kernel_rfl
instance :Sr prog 63 8:=⟨⟨_,underlying63⟩,is63.q⟩
instance :FO prog 63 0 0:=⟨by kernel_rfl⟩
instance :FO prog 63 1 1:=⟨by kernel_rfl⟩
instance :FO prog 63 2 2:=⟨by kernel_rfl⟩
instance :FO prog 63 3 3:=⟨by kernel_rfl⟩
instance :FO prog 63 4 4:=⟨by kernel_rfl⟩
instance :FO prog 63 5 5:=⟨by kernel_rfl⟩
instance :FO prog 63 6 6:=⟨by kernel_rfl⟩
instance :FO prog 63 7 7:=⟨by kernel_rfl⟩
instance is65:Sz prog 65 2:=⟨by kernel_rfl⟩
theorem MS:zeroCells prog 65=some [.int .i64 0,.slice none 0 0]:=by kernel_rfl
instance :Sr prog 65 2:=⟨⟨_,underlying65⟩,is65.q⟩
instance :FO prog 65 0 0:=⟨by kernel_rfl⟩
instance :FO prog 65 1 1:=⟨by kernel_rfl⟩
instance is67:Sz prog 67 11:=⟨by kernel_rfl⟩
theorem KS:zeroCells prog 67=some [.string ByteArray.empty,.int .i64 0,.int .i64 0,.int .i64 0,.int .i64 0,.int .i64 0,.int .i64 0,.int .i64 0,.string ByteArray.empty,.int .i64 0,.slice none 0 0]:=by kernel_rfl
instance :Sr prog 67 11:=⟨⟨_,underlying67⟩,is67.q⟩
instance :FO prog 67 0 0:=⟨by kernel_rfl⟩
instance :FO prog 67 1 8:=⟨by kernel_rfl⟩
instance :FO prog 67 2 9:=⟨by kernel_rfl⟩
instance :Und prog 85 (.slice 167):=⟨underlying85⟩
theorem om:dA prog 85 167 3=true:=by kernel_rfl
theorem kV:eZ prog 85 167 3 24=true:=by kernel_rfl
instance :One prog 89:=⟨by kernel_rfl⟩
instance is91:Sz prog 91 2:=⟨by kernel_rfl⟩
theorem MR:zeroCells prog 91=some [.nilFunc,.nilFunc]:=by kernel_rfl
instance :Sr prog 91 2:=⟨⟨_,underlying91⟩,is91.q⟩
instance :FO prog 91 0 0:=⟨by kernel_rfl⟩
instance :FO prog 91 1 1:=⟨by kernel_rfl⟩
instance :Und prog 92 (.slice 91):=⟨underlying92⟩
theorem OP:dA prog 92 91 2=true:=by kernel_rfl
instance :One prog 93:=⟨by kernel_rfl⟩
instance is93:Sz prog 93 1:=⟨by kernel_rfl⟩
theorem MQ:zeroCells prog 93=some [.map none]:=by kernel_rfl
instance :One prog 98:=⟨by kernel_rfl⟩
instance is98:Sz prog 98 1:=⟨by kernel_rfl⟩
instance :Und prog 98 (.slice 31):=⟨underlying98⟩
theorem Oh:zeroCells prog 98=some [.slice none 0 0]:=by kernel_rfl
theorem Mc:dA prog 98 31 1=true:=by kernel_rfl
theorem OO:eZ prog 98 31 1 24=true:=by kernel_rfl
instance :One prog 101:=⟨by kernel_rfl⟩
instance :One prog 103:=⟨by kernel_rfl⟩
instance is110:Sz prog 110 7:=⟨by kernel_rfl⟩
theorem Ko:zeroCells prog 110=some [.string ByteArray.empty,.int .i64 0,.int .i64 0,.int .i64 0,.int .i64 0,.int .i64 0,.slice none 0 0]:=by kernel_rfl
instance :Sr prog 110 7:=⟨⟨_,underlying110⟩,is110.q⟩
instance :FO prog 110 0 0:=⟨by kernel_rfl⟩
instance :FO prog 110 1 1:=⟨by kernel_rfl⟩
instance :FO prog 110 2 2:=⟨by kernel_rfl⟩
instance :FO prog 110 3 3:=⟨by kernel_rfl⟩
instance :FO prog 110 4 4:=⟨by kernel_rfl⟩
instance :FO prog 110 5 5:=⟨by kernel_rfl⟩
instance :FO prog 110 6 6:=⟨by kernel_rfl⟩
instance is113:Sz prog 113 6:=⟨by kernel_rfl⟩
theorem EQ:zeroCells prog 113=some [.string ByteArray.empty,.int .i64 0,.int .i64 0,.int .i64 0,.int .i64 0,.int .i64 0]:=by kernel_rfl
instance :Sr prog 113 6:=⟨⟨_,underlying113⟩,is113.q⟩
instance :FO prog 113 0 0:=⟨by kernel_rfl⟩
instance :FO prog 113 1 1:=⟨by kernel_rfl⟩
instance :FO prog 113 2 2:=⟨by kernel_rfl⟩
instance :FO prog 113 3 3:=⟨by kernel_rfl⟩
instance :FO prog 113 4 4:=⟨by kernel_rfl⟩
instance :FO prog 113 5 5:=⟨by kernel_rfl⟩
instance is115:Sz prog 115 9:=⟨by kernel_rfl⟩
theorem M4:zeroCells prog 115=some [.string ByteArray.empty,.int .i64 0,.int .i64 0,.int .i64 0,.int .i64 0,.int .i64 0,.int .i64 0,.int .i64 0,.slice none 0 0]:=by kernel_rfl
instance :Sr prog 115 9:=⟨⟨_,underlying115⟩,is115.q⟩
instance :FO prog 115 0 0:=⟨by kernel_rfl⟩
instance :FO prog 115 1 8:=⟨by kernel_rfl⟩
instance is117:Sz prog 117 12:=⟨by kernel_rfl⟩
theorem MZ:zeroCells prog 117=some [.string ByteArray.empty,.int .i64 0,.int .i64 0,.int .i64 0,.int .i64 0,.int .i64 0,.int .i64 0,.int .i64 0,.slice none 0 0,.string ByteArray.empty,.int .i64 0,.slice none 0 0]:=by kernel_rfl
instance :Sr prog 117 12:=⟨⟨_,underlying117⟩,is117.q⟩
instance :FO prog 117 0 0:=⟨by kernel_rfl⟩
instance :FO prog 117 1 9:=⟨by kernel_rfl⟩
instance :FO prog 117 2 10:=⟨by kernel_rfl⟩
instance is120:Sz prog 120 2:=⟨by kernel_rfl⟩
theorem MY:zeroCells prog 120=some [.nilFunc,.int .i64 0]:=by kernel_rfl
instance :Sr prog 120 2:=⟨⟨_,underlying120⟩,is120.q⟩
instance :FO prog 120 0 0:=⟨by kernel_rfl⟩
instance :FO prog 120 1 1:=⟨by kernel_rfl⟩
instance :Und prog 129 (.slice 133):=⟨underlying129⟩
theorem KF:dA prog 129 133 3=true:=by kernel_rfl
instance is133:Sz prog 133 3:=⟨by kernel_rfl⟩
theorem xC:zeroCells prog 133=some [.int .i64 0,.int .i64 0,.int .i64 0]:=by kernel_rfl
instance :Sr prog 133 3:=⟨⟨_,underlying133⟩,is133.q⟩
instance if133_0:FO prog 133 0 0:=⟨by kernel_rfl⟩
instance if133_1:FO prog 133 1 1:=⟨by kernel_rfl⟩
instance if133_2:FO prog 133 2 2:=⟨by kernel_rfl⟩
instance :One prog 134:=⟨by kernel_rfl⟩
instance is134:Sz prog 134 1:=⟨by kernel_rfl⟩
instance :Und prog 134 (.slice 4):=⟨underlying134⟩
theorem Kn:zeroCells prog 134=some [.slice none 0 0]:=by kernel_rfl
theorem Nz:dA prog 134 4 1=true:=by kernel_rfl
theorem rG:eZ prog 134 4 1 1=true:=by kernel_rfl
instance is136:Sz prog 136 3:=⟨by kernel_rfl⟩
theorem MX:zeroCells prog 136=some [.int .i64 0,.slice none 0 0,.slice none 0 0]:=by kernel_rfl
instance :Sr prog 136 3:=⟨⟨_,underlying136⟩,is136.q⟩
instance :FO prog 136 0 0:=⟨by kernel_rfl⟩
instance :FO prog 136 1 1:=⟨by kernel_rfl⟩
instance :FO prog 136 2 2:=⟨by kernel_rfl⟩
instance is138:Sz prog 138 1:=⟨by kernel_rfl⟩
instance :Sr prog 138 1:=⟨⟨_,underlying138⟩,is138.q⟩
instance :FO prog 138 0 0:=⟨by kernel_rfl⟩
instance :Sz prog 139 12:=⟨by kernel_rfl⟩
instance :Und prog 139 (.array 12 3):=⟨underlying139⟩
instance is140:Sz prog 140 144:=⟨by kernel_rfl⟩
instance :Und prog 140 (.array 12 139):=⟨underlying140⟩
theorem BX:zeroCells prog 140=some [.int .i64 0,.int .i64 0,.int .i64 0,.int .i64 0,.int .i64 0,.int .i64 0,.int .i64 0,.int .i64 0,.int .i64 0,.int .i64 0,.int .i64 0,.int .i64 0,.int .i64 0,.int .i64 0,.int .i64 0,.int .i64 0,.int .i64 0,.int .i64 0,.int .i64 0,.int .i64 0,.int .i64 0,.int .i64 0,.int .i64 0,.int .i64 0,.int .i64 0,.int .i64 0,.int .i64 0,.int .i64 0,.int .i64 0,.int .i64 0,.int .i64 0,.int .i64 0,.int .i64 0,.int .i64 0,.int .i64 0,.int .i64 0,.int .i64 0,.int .i64 0,.int .i64 0,.int .i64 0,.int .i64 0,.int .i64 0,.int .i64 0,.int .i64 0,.int .i64 0,.int .i64 0,.int .i64 0,.int .i64 0,.int .i64 0,.int .i64 0,.int .i64 0,.int .i64 0,.int .i64 0,.int .i64 0,.int .i64 0,.int .i64 0,.int .i64 0,.int .i64 0,.int .i64 0,.int .i64 0,.int .i64 0,.int .i64 0,.int .i64 0,.int .i64 0,.int .i64 0,.int .i64 0,.int .i64 0,.int .i64 0,.int .i64 0,.int .i64 0,.int .i64 0,.int .i64 0,.int .i64 0,.int .i64 0,.int .i64 0,.int .i64 0,.int .i64 0,.int .i64 0,.int .i64 0,.int .i64 0,.int .i64 0,.int .i64 0,.int .i64 0,.int .i64 0,.int .i64 0,.int .i64 0,.int .i64 0,.int .i64 0,.int .i64 0,.int .i64 0,.int .i64 0,.int .i64 0,.int .i64 0,.int .i64 0,.int .i64 0,.int .i64 0,.int .i64 0,.int .i64 0,.int .i64 0,.int .i64 0,.int .i64 0,.int .i64 0,.int .i64 0,.int .i64 0,.int .i64 0,.int .i64 0,.int .i64 0,.int .i64 0,.int .i64 0,.int .i64 0,.int .i64 0,.int .i64 0,.int .i64 0,.int .i64 0,.int .i64 0,.int .i64 0,.int .i64 0,.int .i64 0,.int .i64 0,.int .i64 0,.int .i64 0,.int .i64 0,.int .i64 0,.int .i64 0,.int .i64 0,.int .i64 0,.int .i64 0,.int .i64 0,.int .i64 0,.int .i64 0,.int .i64 0,.int .i64 0,.int .i64 0,.int .i64 0,.int .i64 0,.int .i64 0,.int .i64 0,.int .i64 0,.int .i64 0,.int .i64 0,.int .i64 0,.int .i64 0,.int .i64 0,.int .i64 0]:=by kernel_rfl
instance :One prog 146:=⟨by kernel_rfl⟩
instance :Und prog 146 (.slice 159):=⟨underlying146⟩
theorem H6:dA prog 146 159 1=true:=by kernel_rfl
theorem Hl:eZ prog 146 159 1 16=true:=by kernel_rfl
instance :One prog 150:=⟨by kernel_rfl⟩
instance is150:Sz prog 150 1:=⟨by kernel_rfl⟩
instance :Und prog 150 (.slice 154):=⟨underlying150⟩
theorem Nt:eZ prog 150 154 1 4=true:=by kernel_rfl
instance :FO prog 152 0 0:=⟨by kernel_rfl⟩
instance :FO prog 152 1 1:=⟨by kernel_rfl⟩
instance :FO prog 152 2 2:=⟨by kernel_rfl⟩
instance :One prog 154:=⟨by kernel_rfl⟩
instance is154:Sz prog 154 1:=⟨by kernel_rfl⟩
instance :Und prog 154 (.int .u32):=⟨underlying154⟩
theorem MP:(prog.info? 154).bind (·.zero)=some (.int .u32 0):=by kernel_rfl
instance is156:Sz prog 156 2:=⟨by kernel_rfl⟩
theorem mF:zeroCells prog 156=some [.int .u32 0,.int .i64 0]:=by kernel_rfl
instance :Sr prog 156 2:=⟨⟨_,underlying156⟩,is156.q⟩
instance :FO prog 156 0 0:=⟨by kernel_rfl⟩
instance :FO prog 156 1 1:=⟨by kernel_rfl⟩
instance :One prog 159:=⟨by kernel_rfl⟩
instance is159:Sz prog 159 1:=⟨by kernel_rfl⟩
instance :One prog 163:=⟨by kernel_rfl⟩
instance :Und prog 172 (.int .u64):=⟨underlying172⟩
instance :Und prog 174 (.slice 175):=⟨underlying174⟩
theorem Ny:dA prog 174 175 1=true:=by kernel_rfl
instance :One prog 175:=⟨by kernel_rfl⟩
instance :Sz prog 175 1:=⟨by kernel_rfl⟩
instance :One prog 188:=⟨by kernel_rfl⟩
instance :One prog 191:=⟨by kernel_rfl⟩
instance :One prog 194:=⟨by kernel_rfl⟩
instance :One prog 197:=⟨by kernel_rfl⟩
instance is199:Sz prog 199 3:=⟨by kernel_rfl⟩
instance :Sr prog 199 3:=⟨⟨_,underlying199⟩,is199.q⟩
instance :FO prog 199 0 0:=⟨by kernel_rfl⟩
instance :FO prog 199 1 1:=⟨by kernel_rfl⟩
instance :FO prog 199 2 2:=⟨by kernel_rfl⟩
instance :One prog 201:=⟨by kernel_rfl⟩
instance :Und prog 202 (.slice 120):=⟨underlying202⟩
theorem KE:dA prog 202 120 2=true:=by kernel_rfl
instance :One prog 206:=⟨by kernel_rfl⟩
instance if216_0:FO prog 216 0 0:=⟨by kernel_rfl⟩
instance :FO prog 216 1 3:=⟨by kernel_rfl⟩
instance :FO prog 216 2 7:=⟨by kernel_rfl⟩
instance :FO prog 218 0 0:=⟨by kernel_rfl⟩
instance :FO prog 218 1 1:=⟨by kernel_rfl⟩
instance is226:Sz prog 226 3:=⟨by kernel_rfl⟩
theorem EP:zeroCells prog 226=some [.int .i64 0,.int .i64 0,.int .i64 0]:=by kernel_rfl
instance :FO prog 226 0 0:=⟨by kernel_rfl⟩
instance :FO prog 226 1 1:=⟨by kernel_rfl⟩
instance :FO prog 226 2 2:=⟨by kernel_rfl⟩
instance :Und prog 228 (.slice 156):=⟨underlying228⟩
theorem KD:dA prog 228 156 2=true:=by kernel_rfl
theorem Ns:eZ prog 228 156 2 16=true:=by kernel_rfl
instance :Und prog 241 (.int .u64):=⟨underlying241⟩
instance io250:One prog 250:=⟨by kernel_rfl⟩
instance is250:Sz prog 250 1:=⟨by kernel_rfl⟩
instance is251:Sz prog 251 3:=⟨by kernel_rfl⟩
instance :Und prog 251 (.array 3 250):=⟨underlying251⟩
theorem xB:zeroCells prog 251=some [.nilFunc,.nilFunc,.nilFunc]:=by kernel_rfl
instance is256:Sz prog 256 6:=⟨by kernel_rfl⟩
instance :Sr prog 256 6:=⟨⟨_,underlying256⟩,is256.q⟩
instance :FO prog 256 0 0:=⟨by kernel_rfl⟩
instance :FO prog 256 1 1:=⟨by kernel_rfl⟩
instance :FO prog 256 2 2:=⟨by kernel_rfl⟩
instance :FO prog 256 3 3:=⟨by kernel_rfl⟩
instance :FO prog 256 4 4:=⟨by kernel_rfl⟩
instance :FO prog 256 5 5:=⟨by kernel_rfl⟩
instance :Und prog 265 (.slice 270):=⟨underlying265⟩
theorem H5:dA prog 265 270 7=true:=by kernel_rfl
theorem Hg:eZ prog 265 270 7 56=true:=by kernel_rfl
instance :Und prog 268 (.slice 272):=⟨underlying268⟩
theorem HZ:dA prog 268 272 4=true:=by kernel_rfl
theorem Hf:eZ prog 268 272 4 32=true:=by kernel_rfl
instance is270:Sz prog 270 7:=⟨by kernel_rfl⟩
theorem MW:zeroCells prog 270=some [.int .i64 0,.int .i64 0,.int .i64 0,.int .i64 0,.int .i64 0,.int .i64 0,.int .i64 0]:=by kernel_rfl
instance :Sr prog 270 7:=⟨⟨_,underlying270⟩,is270.q⟩
instance :FO prog 270 0 0:=⟨by kernel_rfl⟩
instance :FO prog 270 1 1:=⟨by kernel_rfl⟩
instance :FO prog 270 2 2:=⟨by kernel_rfl⟩
instance :FO prog 270 3 3:=⟨by kernel_rfl⟩
instance :FO prog 270 4 4:=⟨by kernel_rfl⟩
instance :FO prog 270 5 5:=⟨by kernel_rfl⟩
instance :FO prog 270 6 6:=⟨by kernel_rfl⟩
instance is272:Sz prog 272 4:=⟨by kernel_rfl⟩
theorem Km:zeroCells prog 272=some [.int .i64 0,.int .i64 0,.int .i64 0,.int .i64 0]:=by kernel_rfl
instance :Sr prog 272 4:=⟨⟨_,underlying272⟩,is272.q⟩
instance :FO prog 272 0 0:=⟨by kernel_rfl⟩
instance :FO prog 272 1 1:=⟨by kernel_rfl⟩
instance :FO prog 272 2 2:=⟨by kernel_rfl⟩
instance :FO prog 272 3 3:=⟨by kernel_rfl⟩
instance :Und prog 281 (.slice 5):=⟨underlying281⟩
instance is282:Sz prog 282 17:=⟨by kernel_rfl⟩
instance :Und prog 282 (.array 17 9):=⟨underlying282⟩
instance :Und prog 311 (.array 24 5):=⟨underlying311⟩
instance :FnI prog 3 Tryz.f3 115:=⟨func3,ntmps3⟩
instance :En prog 10:=⟨by kernel_rfl⟩
instance :FnI prog 10 Tryz.f10 140:=⟨func10,ntmps10⟩
instance :En prog 11:=⟨by kernel_rfl⟩
instance :FnI prog 11 Tryz.f11 46:=⟨func11,ntmps11⟩
instance ie12:En prog 12:=⟨by kernel_rfl⟩
instance :FnI prog 12 Tryz.f12 47:=⟨func12,ntmps12⟩
instance ie13:En prog 13:=⟨by kernel_rfl⟩
instance :FnI prog 13 Tryz.f13 76:=⟨func13,ntmps13⟩
instance :En prog 14:=⟨by kernel_rfl⟩
instance :FnI prog 14 Tryz.f14 109:=⟨func14,ntmps14⟩
instance ie15:En prog 15:=⟨by kernel_rfl⟩
instance :FnI prog 15 Tryz.f15 26:=⟨func15,ntmps15⟩
instance ie16:En prog 16:=⟨by kernel_rfl⟩
instance :FnI prog 16 Tryz.f16 46:=⟨func16,ntmps16⟩
instance ie17:En prog 17:=⟨by kernel_rfl⟩
instance :FnI prog 17 Tryz.f17 52:=⟨func17,ntmps17⟩
instance ie18:En prog 18:=⟨by kernel_rfl⟩
instance :FnI prog 18 Tryz.f18 30:=⟨func18,ntmps18⟩
instance ie19:En prog 19:=⟨by kernel_rfl⟩
instance :FnI prog 19 Tryz.f19 57:=⟨func19,ntmps19⟩
instance :En prog 21:=⟨by kernel_rfl⟩
instance :FnI prog 21 Tryz.f21 37:=⟨func21,ntmps21⟩
instance :En prog 22:=⟨by kernel_rfl⟩
instance :FnI prog 22 Tryz.f22 44:=⟨func22,ntmps22⟩
instance :En prog 23:=⟨by kernel_rfl⟩
instance :FnI prog 23 Tryz.f23 57:=⟨func23,ntmps23⟩
instance :En prog 24:=⟨by kernel_rfl⟩
instance :FnI prog 24 Tryz.f24 50:=⟨func24,ntmps24⟩
instance :En prog 25:=⟨by kernel_rfl⟩
instance :FnI prog 25 Tryz.f25 31:=⟨func25,ntmps25⟩
instance :En prog 26:=⟨by kernel_rfl⟩
instance :FnI prog 26 Tryz.f26 42:=⟨func26,ntmps26⟩
instance :En prog 27:=⟨by kernel_rfl⟩
instance :FnI prog 27 Tryz.f27 54:=⟨func27,ntmps27⟩
instance :En prog 29:=⟨by kernel_rfl⟩
instance :FnI prog 29 Tryz.f29 23:=⟨func29,ntmps29⟩
instance :En prog 30:=⟨by kernel_rfl⟩
instance :FnI prog 30 Tryz.f30 51:=⟨func30,ntmps30⟩
instance :En prog 31:=⟨by kernel_rfl⟩
instance :FnI prog 31 Tryz.f31 29:=⟨func31,ntmps31⟩
instance :En prog 32:=⟨by kernel_rfl⟩
instance :FnI prog 32 Tryz.f32 22:=⟨func32,ntmps32⟩
instance ie33:En prog 33:=⟨by kernel_rfl⟩
instance :FnI prog 33 Tryz.f33 88:=⟨func33,ntmps33⟩
instance :En prog 34:=⟨by kernel_rfl⟩
instance :FnI prog 34 Tryz.f34 90:=⟨func34,ntmps34⟩
instance ie35:En prog 35:=⟨by kernel_rfl⟩
instance :FnI prog 35 Tryz.f35 22:=⟨func35,ntmps35⟩
instance :En prog 36:=⟨by kernel_rfl⟩
instance :FnI prog 36 Tryz.f36 41:=⟨func36,ntmps36⟩
instance ie37:En prog 37:=⟨by kernel_rfl⟩
instance :FnI prog 37 Tryz.f37 36:=⟨func37,ntmps37⟩
instance ie38:En prog 38:=⟨by kernel_rfl⟩
instance :FnI prog 38 Tryz.f38 42:=⟨func38,ntmps38⟩
instance ie39:En prog 39:=⟨by kernel_rfl⟩
instance :FnI prog 39 Tryz.f39 18:=⟨func39,ntmps39⟩
instance ie40:En prog 40:=⟨by kernel_rfl⟩
instance :FnI prog 40 Tryz.f40 37:=⟨func40,ntmps40⟩
instance ie41:En prog 41:=⟨by kernel_rfl⟩
instance :FnI prog 41 Tryz.f41 12:=⟨func41,ntmps41⟩
instance ie42:En prog 42:=⟨by kernel_rfl⟩
instance :FnI prog 42 Tryz.f42 2:=⟨func42,ntmps42⟩
instance :En prog 43:=⟨by kernel_rfl⟩
instance :FnI prog 43 Tryz.f43 7:=⟨func43,ntmps43⟩
instance ie44:En prog 44:=⟨by kernel_rfl⟩
instance :FnI prog 44 Tryz.f44 20:=⟨func44,ntmps44⟩
instance ie45:En prog 45:=⟨by kernel_rfl⟩
instance :FnI prog 45 Tryz.f45 50:=⟨func45,ntmps45⟩
instance :En prog 46:=⟨by kernel_rfl⟩
instance :FnI prog 46 Tryz.f46 36:=⟨func46,ntmps46⟩
instance ie47:En prog 47:=⟨by kernel_rfl⟩
instance :FnI prog 47 Tryz.f47 55:=⟨func47,ntmps47⟩
instance :En prog 48:=⟨by kernel_rfl⟩
instance :En prog 49:=⟨by kernel_rfl⟩
instance :FnI prog 49 Tryz.f49 82:=⟨func49,ntmps49⟩
instance ie50:En prog 50:=⟨by kernel_rfl⟩
instance :FnI prog 50 Tryz.f50 51:=⟨func50,ntmps50⟩
instance :En prog 51:=⟨by kernel_rfl⟩
instance :FnI prog 51 Tryz.f51 18:=⟨func51,ntmps51⟩
instance ie52:En prog 52:=⟨by kernel_rfl⟩
instance :FnI prog 52 Tryz.f52 8:=⟨func52,ntmps52⟩
instance ie53:En prog 53:=⟨by kernel_rfl⟩
instance :FnI prog 53 Tryz.f53 16:=⟨func53,ntmps53⟩
instance ie54:En prog 54:=⟨by kernel_rfl⟩
instance :FnI prog 54 Tryz.f54 9:=⟨func54,ntmps54⟩
instance ie55:En prog 55:=⟨by kernel_rfl⟩
instance :FnI prog 55 Tryz.f55 8:=⟨func55,ntmps55⟩
instance ie56:En prog 56:=⟨by kernel_rfl⟩
instance :FnI prog 56 Tryz.f56 56:=⟨func56,ntmps56⟩
instance ie57:En prog 57:=⟨by kernel_rfl⟩
instance :FnI prog 57 Tryz.f57 29:=⟨func57,ntmps57⟩
instance :En prog 58:=⟨by kernel_rfl⟩
instance :FnI prog 58 Tryz.f58 10:=⟨func58,ntmps58⟩
instance :En prog 59:=⟨by kernel_rfl⟩
instance :FnI prog 59 Tryz.f59 22:=⟨func59,ntmps59⟩
instance :En prog 60:=⟨by kernel_rfl⟩
instance :FnI prog 60 Tryz.f60 8:=⟨func60,ntmps60⟩
instance ie61:En prog 61:=⟨by kernel_rfl⟩
instance :FnI prog 61 Tryz.f61 9:=⟨func61,ntmps61⟩
instance ie62:En prog 62:=⟨by kernel_rfl⟩
instance :FnI prog 62 Tryz.f62 9:=⟨func62,ntmps62⟩
instance :En prog 63:=⟨by kernel_rfl⟩
instance :FnI prog 63 Tryz.f63 6:=⟨func63,ntmps63⟩
instance :En prog 64:=⟨by kernel_rfl⟩
instance :FnI prog 64 Tryz.f64 57:=⟨func64,ntmps64⟩
instance ie65:En prog 65:=⟨by kernel_rfl⟩
instance :FnI prog 65 Tryz.f65 13:=⟨func65,ntmps65⟩
instance ie66:En prog 66:=⟨by kernel_rfl⟩
instance :FnI prog 66 Tryz.f66 13:=⟨func66,ntmps66⟩
instance :En prog 67:=⟨by kernel_rfl⟩
instance :FnI prog 67 Tryz.f67 17:=⟨func67,ntmps67⟩
instance ie68:En prog 68:=⟨by kernel_rfl⟩
instance :FnI prog 68 Tryz.f68 67:=⟨func68,ntmps68⟩
instance ie69:En prog 69:=⟨by kernel_rfl⟩
instance :FnI prog 69 Tryz.f69 19:=⟨func69,ntmps69⟩
instance ie70:En prog 70:=⟨by kernel_rfl⟩
instance :FnI prog 70 Tryz.f70 18:=⟨func70,ntmps70⟩
instance ie71:En prog 71:=⟨by kernel_rfl⟩
instance :FnI prog 71 Tryz.f71 28:=⟨func71,ntmps71⟩
instance ie72:En prog 72:=⟨by kernel_rfl⟩
instance :FnI prog 72 Tryz.f72 9:=⟨func72,ntmps72⟩
instance ie73:En prog 73:=⟨by kernel_rfl⟩
instance :FnI prog 73 Tryz.f73 9:=⟨func73,ntmps73⟩
instance ie74:En prog 74:=⟨by kernel_rfl⟩
instance :FnI prog 74 Tryz.f74 7:=⟨func74,ntmps74⟩
instance :En prog 75:=⟨by kernel_rfl⟩
instance :FnI prog 75 Tryz.f75 8:=⟨func75,ntmps75⟩
instance :En prog 76:=⟨by kernel_rfl⟩
instance :FnI prog 76 Tryz.f76 23:=⟨func76,ntmps76⟩
instance :En prog 77:=⟨by kernel_rfl⟩
instance :FnI prog 77 Tryz.f77 31:=⟨func77,ntmps77⟩
instance :En prog 78:=⟨by kernel_rfl⟩
instance :FnI prog 78 Tryz.f78 6:=⟨func78,ntmps78⟩
instance :En prog 79:=⟨by kernel_rfl⟩
instance :FnI prog 79 Tryz.f79 71:=⟨func79,ntmps79⟩
instance :En prog 81:=⟨by kernel_rfl⟩
instance :FnI prog 81 Tryz.f81 86:=⟨func81,ntmps81⟩
instance :En prog 82:=⟨by kernel_rfl⟩
instance :FnI prog 82 Tryz.f82 54:=⟨func82,ntmps82⟩
instance :En prog 83:=⟨by kernel_rfl⟩
instance :FnI prog 83 Tryz.f83 22:=⟨func83,ntmps83⟩
instance :En prog 84:=⟨by kernel_rfl⟩
instance :FnI prog 84 Tryz.f84 116:=⟨func84,ntmps84⟩
instance :En prog 85:=⟨by kernel_rfl⟩
instance :FnI prog 85 Tryz.f85 73:=⟨func85,ntmps85⟩
instance :En prog 86:=⟨by kernel_rfl⟩
instance :FnI prog 86 Tryz.f86 51:=⟨func86,ntmps86⟩
instance :En prog 87:=⟨by kernel_rfl⟩
instance :FnI prog 87 Tryz.f87 144:=⟨func87,ntmps87⟩
instance ie88:En prog 88:=⟨by kernel_rfl⟩
instance :FnI prog 88 Tryz.f88 64:=⟨func88,ntmps88⟩
instance :En prog 89:=⟨by kernel_rfl⟩
instance :FnI prog 89 Tryz.f89 27:=⟨func89,ntmps89⟩
instance :En prog 90:=⟨by kernel_rfl⟩
instance :FnI prog 90 Tryz.f90 13:=⟨func90,ntmps90⟩
instance :En prog 91:=⟨by kernel_rfl⟩
instance :FnI prog 91 Tryz.f91 110:=⟨func91,ntmps91⟩
instance :En prog 92:=⟨by kernel_rfl⟩
instance :FnI prog 92 Tryz.f92 33:=⟨func92,ntmps92⟩
instance ie93:En prog 93:=⟨by kernel_rfl⟩
instance :FnI prog 93 Tryz.f93 45:=⟨func93,ntmps93⟩
instance ie94:En prog 94:=⟨by kernel_rfl⟩
instance :FnI prog 94 Tryz.f94 15:=⟨func94,ntmps94⟩
instance :En prog 95:=⟨by kernel_rfl⟩
instance :FnI prog 95 Tryz.f95 46:=⟨func95,ntmps95⟩
instance ie96:En prog 96:=⟨by kernel_rfl⟩
instance :FnI prog 96 Tryz.f96 115:=⟨func96,ntmps96⟩
instance ie97:En prog 97:=⟨by kernel_rfl⟩
instance :FnI prog 97 Tryz.f97 12:=⟨func97,ntmps97⟩
instance ie98:En prog 98:=⟨by kernel_rfl⟩
instance :FnI prog 98 Tryz.f98 40:=⟨func98,ntmps98⟩
instance :En prog 99:=⟨by kernel_rfl⟩
instance :FnI prog 99 Tryz.f99 49:=⟨func99,ntmps99⟩
instance :En prog 102:=⟨by kernel_rfl⟩
instance :FnI prog 102 Tryz.f102 67:=⟨func102,ntmps102⟩
instance :En prog 103:=⟨by kernel_rfl⟩
instance :FnI prog 103 Tryz.f103 7:=⟨func103,ntmps103⟩
instance ie104:En prog 104:=⟨by kernel_rfl⟩
instance :FnI prog 104 Tryz.f104 15:=⟨func104,ntmps104⟩
instance :En prog 105:=⟨by kernel_rfl⟩
instance :FnI prog 105 Tryz.f105 30:=⟨func105,ntmps105⟩
instance :En prog 106:=⟨by kernel_rfl⟩
instance :FnI prog 106 Tryz.f106 41:=⟨func106,ntmps106⟩
instance :En prog 107:=⟨by kernel_rfl⟩
instance :FnI prog 107 Tryz.f107 85:=⟨func107,ntmps107⟩
instance ie108:En prog 108:=⟨by kernel_rfl⟩
instance :FnI prog 108 Tryz.f108 9:=⟨func108,ntmps108⟩
instance ie109:En prog 109:=⟨by kernel_rfl⟩
instance :FnI prog 109 Tryz.f109 14:=⟨func109,ntmps109⟩
instance :En prog 110:=⟨by kernel_rfl⟩
instance :FnI prog 110 Tryz.f110 9:=⟨func110,ntmps110⟩
instance ie111:En prog 111:=⟨by kernel_rfl⟩
instance :FnI prog 111 Tryz.f111 23:=⟨func111,ntmps111⟩
instance ie112:En prog 112:=⟨by kernel_rfl⟩
instance :FnI prog 112 Tryz.f112 15:=⟨func112,ntmps112⟩
instance ie113:En prog 113:=⟨by kernel_rfl⟩
instance :FnI prog 113 Tryz.f113 36:=⟨func113,ntmps113⟩
instance :En prog 114:=⟨by kernel_rfl⟩
instance :FnI prog 114 Tryz.f114 19:=⟨func114,ntmps114⟩
instance ie115:En prog 115:=⟨by kernel_rfl⟩
instance :FnI prog 115 Tryz.f115 40:=⟨func115,ntmps115⟩
instance :En prog 116:=⟨by kernel_rfl⟩
instance :FnI prog 116 Tryz.f116 6:=⟨func116,ntmps116⟩
instance ie117:En prog 117:=⟨by kernel_rfl⟩
instance :FnI prog 117 Tryz.f117 14:=⟨func117,ntmps117⟩
instance :En prog 118:=⟨by kernel_rfl⟩
instance :FnI prog 118 Tryz.f118 57:=⟨func118,ntmps118⟩
instance ie119:En prog 119:=⟨by kernel_rfl⟩
instance :FnI prog 119 Tryz.f119 43:=⟨func119,ntmps119⟩
instance ie120:En prog 120:=⟨by kernel_rfl⟩
instance :FnI prog 120 Tryz.f120 10:=⟨func120,ntmps120⟩
instance :En prog 121:=⟨by kernel_rfl⟩
instance :FnI prog 121 Tryz.f121 57:=⟨func121,ntmps121⟩
instance ie122:En prog 122:=⟨by kernel_rfl⟩
instance :FnI prog 122 Tryz.f122 3:=⟨func122,ntmps122⟩
instance ie123:En prog 123:=⟨by kernel_rfl⟩
instance :FnI prog 123 Tryz.f123 10:=⟨func123,ntmps123⟩
instance :En prog 124:=⟨by kernel_rfl⟩
instance :FnI prog 124 Tryz.f124 57:=⟨func124,ntmps124⟩
instance ie125:En prog 125:=⟨by kernel_rfl⟩
instance :FnI prog 125 Tryz.f125 7:=⟨func125,ntmps125⟩
instance :En prog 126:=⟨by kernel_rfl⟩
instance :FnI prog 126 Tryz.f126 51:=⟨func126,ntmps126⟩
instance ie127:En prog 127:=⟨by kernel_rfl⟩
instance :FnI prog 127 Tryz.f127 10:=⟨func127,ntmps127⟩
instance :En prog 128:=⟨by kernel_rfl⟩
instance :FnI prog 128 Tryz.f128 57:=⟨func128,ntmps128⟩
instance ie129:En prog 129:=⟨by kernel_rfl⟩
instance :FnI prog 129 Tryz.f129 7:=⟨func129,ntmps129⟩
instance :En prog 130:=⟨by kernel_rfl⟩
instance :FnI prog 130 Tryz.f130 39:=⟨func130,ntmps130⟩
instance ie131:En prog 131:=⟨by kernel_rfl⟩
instance :FnI prog 131 Tryz.f131 10:=⟨func131,ntmps131⟩
instance :En prog 132:=⟨by kernel_rfl⟩
instance :FnI prog 132 Tryz.f132 57:=⟨func132,ntmps132⟩
instance ie133:En prog 133:=⟨by kernel_rfl⟩
instance :FnI prog 133 Tryz.f133 11:=⟨func133,ntmps133⟩
instance ie134:En prog 134:=⟨by kernel_rfl⟩
instance :FnI prog 134 Tryz.f134 5:=⟨func134,ntmps134⟩
instance :En prog 135:=⟨by kernel_rfl⟩
instance :FnI prog 135 Tryz.f135 15:=⟨func135,ntmps135⟩
instance ie136:En prog 136:=⟨by kernel_rfl⟩
instance :FnI prog 136 Tryz.f136 7:=⟨func136,ntmps136⟩
instance ie137:En prog 137:=⟨by kernel_rfl⟩
instance :FnI prog 137 Tryz.f137 12:=⟨func137,ntmps137⟩
instance ie138:En prog 138:=⟨by kernel_rfl⟩
instance :FnI prog 138 Tryz.f138 18:=⟨func138,ntmps138⟩
instance ie139:En prog 139:=⟨by kernel_rfl⟩
instance :FnI prog 139 Tryz.f139 5:=⟨func139,ntmps139⟩
instance ie140:En prog 140:=⟨by kernel_rfl⟩
instance :FnI prog 140 Tryz.f140 5:=⟨func140,ntmps140⟩
instance :En prog 141:=⟨by kernel_rfl⟩
instance :FnI prog 141 Tryz.f141 30:=⟨func141,ntmps141⟩
instance ie142:En prog 142:=⟨by kernel_rfl⟩
instance :FnI prog 142 Tryz.f142 14:=⟨func142,ntmps142⟩
instance :En prog 143:=⟨by kernel_rfl⟩
instance :FnI prog 143 Tryz.f143 62:=⟨func143,ntmps143⟩
instance :En prog 144:=⟨by kernel_rfl⟩
instance :FnI prog 144 Tryz.f144 19:=⟨func144,ntmps144⟩
instance :En prog 145:=⟨by kernel_rfl⟩
instance :FnI prog 145 Tryz.f145 9:=⟨func145,ntmps145⟩
instance ie146:En prog 146:=⟨by kernel_rfl⟩
instance :FnI prog 146 Tryz.f146 21:=⟨func146,ntmps146⟩
instance ie147:En prog 147:=⟨by kernel_rfl⟩
instance :FnI prog 147 Tryz.f147 5:=⟨func147,ntmps147⟩
instance :En prog 148:=⟨by kernel_rfl⟩
instance :FnI prog 148 Tryz.f148 9:=⟨func148,ntmps148⟩
instance :En prog 149:=⟨by kernel_rfl⟩
instance :FnI prog 149 Tryz.f149 4:=⟨func149,ntmps149⟩
instance ie150:En prog 150:=⟨by kernel_rfl⟩
instance :FnI prog 150 Tryz.f150 38:=⟨func150,ntmps150⟩
instance :En prog 151:=⟨by kernel_rfl⟩
instance :FnI prog 151 Tryz.f151 102:=⟨func151,ntmps151⟩
instance ie152:En prog 152:=⟨by kernel_rfl⟩
instance :FnI prog 152 Tryz.f152 22:=⟨func152,ntmps152⟩
instance ie153:En prog 153:=⟨by kernel_rfl⟩
instance :FnI prog 153 Tryz.f153 27:=⟨func153,ntmps153⟩
instance :En prog 154:=⟨by kernel_rfl⟩
instance :FnI prog 154 Tryz.f154 15:=⟨func154,ntmps154⟩
instance :En prog 155:=⟨by kernel_rfl⟩
instance :FnI prog 155 Tryz.f155 15:=⟨func155,ntmps155⟩
instance :En prog 156:=⟨by kernel_rfl⟩
instance :FnI prog 156 Tryz.f156 35:=⟨func156,ntmps156⟩
instance :En prog 157:=⟨by kernel_rfl⟩
instance :FnI prog 157 Tryz.f157 9:=⟨func157,ntmps157⟩
instance ie158:En prog 158:=⟨by kernel_rfl⟩
instance :FnI prog 158 Tryz.f158 22:=⟨func158,ntmps158⟩
instance :En prog 159:=⟨by kernel_rfl⟩
instance :FnI prog 159 Tryz.f159 20:=⟨func159,ntmps159⟩
instance :En prog 160:=⟨by kernel_rfl⟩
instance :FnI prog 160 Tryz.f160 49:=⟨func160,ntmps160⟩
instance :En prog 161:=⟨by kernel_rfl⟩
instance :FnI prog 161 Tryz.f161 61:=⟨func161,ntmps161⟩
instance :En prog 162:=⟨by kernel_rfl⟩
instance :FnI prog 162 Tryz.f162 75:=⟨func162,ntmps162⟩
instance :En prog 163:=⟨by kernel_rfl⟩
instance :FnI prog 163 Tryz.f163 65:=⟨func163,ntmps163⟩
instance :En prog 164:=⟨by kernel_rfl⟩
instance :FnI prog 164 Tryz.f164 101:=⟨func164,ntmps164⟩
instance :En prog 165:=⟨by kernel_rfl⟩
instance :FnI prog 165 Tryz.f165 126:=⟨func165,ntmps165⟩
instance :En prog 166:=⟨by kernel_rfl⟩
instance :FnI prog 166 Tryz.f166 94:=⟨func166,ntmps166⟩
instance ie167:En prog 167:=⟨by kernel_rfl⟩
instance :FnI prog 167 Tryz.f167 18:=⟨func167,ntmps167⟩
instance :En prog 179:=⟨by kernel_rfl⟩
instance :FnI prog 179 Tryz.f179 24:=⟨func179,ntmps179⟩
instance ie180:En prog 180:=⟨by kernel_rfl⟩
instance :FnI prog 180 Tryz.f180 67:=⟨func180,ntmps180⟩
instance ie181:En prog 181:=⟨by kernel_rfl⟩
instance :FnI prog 181 Tryz.f181 31:=⟨func181,ntmps181⟩
instance :En prog 182:=⟨by kernel_rfl⟩
instance :FnI prog 182 Tryz.f182 24:=⟨func182,ntmps182⟩
instance ie183:En prog 183:=⟨by kernel_rfl⟩
instance :FnI prog 183 Tryz.f183 13:=⟨func183,ntmps183⟩
instance :En prog 184:=⟨by kernel_rfl⟩
instance :FnI prog 184 Tryz.f184 9:=⟨func184,ntmps184⟩
instance :En prog 185:=⟨by kernel_rfl⟩
instance :FnI prog 185 Tryz.f185 1:=⟨func185,ntmps185⟩
instance :En prog 186:=⟨by kernel_rfl⟩
instance :FnI prog 186 Tryz.f186 20:=⟨func186,ntmps186⟩
instance :En prog 187:=⟨by kernel_rfl⟩
instance :FnI prog 187 Tryz.f187 6:=⟨func187,ntmps187⟩
instance :En prog 188:=⟨by kernel_rfl⟩
instance :FnI prog 188 Tryz.f188 19:=⟨func188,ntmps188⟩
instance :En prog 189:=⟨by kernel_rfl⟩
instance :FnI prog 189 Tryz.f189 19:=⟨func189,ntmps189⟩
instance :En prog 190:=⟨by kernel_rfl⟩
instance :FnI prog 190 Tryz.f190 27:=⟨func190,ntmps190⟩
instance ie191:En prog 191:=⟨by kernel_rfl⟩
instance :FnI prog 191 Tryz.f191 45:=⟨func191,ntmps191⟩
instance ie192:En prog 192:=⟨by kernel_rfl⟩
instance :FnI prog 192 Tryz.f192 9:=⟨func192,ntmps192⟩
instance :En prog 193:=⟨by kernel_rfl⟩
instance :FnI prog 193 Tryz.f193 49:=⟨func193,ntmps193⟩
instance ie194:En prog 194:=⟨by kernel_rfl⟩
instance :FnI prog 194 Tryz.f194 17:=⟨func194,ntmps194⟩
instance ie195:En prog 195:=⟨by kernel_rfl⟩
instance :FnI prog 195 Tryz.f195 12:=⟨func195,ntmps195⟩
instance ie196:En prog 196:=⟨by kernel_rfl⟩
instance :FnI prog 196 Tryz.f196 9:=⟨func196,ntmps196⟩
instance ie197:En prog 197:=⟨by kernel_rfl⟩
instance :FnI prog 197 Tryz.f197 17:=⟨func197,ntmps197⟩
instance ie198:En prog 198:=⟨by kernel_rfl⟩
instance :FnI prog 198 Tryz.f198 12:=⟨func198,ntmps198⟩
instance ie199:En prog 199:=⟨by kernel_rfl⟩
instance :FnI prog 199 Tryz.f199 9:=⟨func199,ntmps199⟩
instance ie200:En prog 200:=⟨by kernel_rfl⟩
instance :FnI prog 200 Tryz.f200 17:=⟨func200,ntmps200⟩
instance ie201:En prog 201:=⟨by kernel_rfl⟩
instance :FnI prog 201 Tryz.f201 12:=⟨func201,ntmps201⟩
instance :En prog 202:=⟨by kernel_rfl⟩
instance :FnI prog 202 Tryz.f202 13:=⟨func202,ntmps202⟩
instance ie203:En prog 203:=⟨by kernel_rfl⟩
instance :FnI prog 203 Tryz.f203 13:=⟨func203,ntmps203⟩
instance :En prog 204:=⟨by kernel_rfl⟩
instance :FnI prog 204 Tryz.f204 32:=⟨func204,ntmps204⟩
instance ie205:En prog 205:=⟨by kernel_rfl⟩
instance :FnI prog 205 Tryz.f205 15:=⟨func205,ntmps205⟩
instance ie206:En prog 206:=⟨by kernel_rfl⟩
instance :FnI prog 206 Tryz.f206 9:=⟨func206,ntmps206⟩
instance ie207:En prog 207:=⟨by kernel_rfl⟩
instance :FnI prog 207 Tryz.f207 17:=⟨func207,ntmps207⟩
instance ie208:En prog 208:=⟨by kernel_rfl⟩
instance :FnI prog 208 Tryz.f208 12:=⟨func208,ntmps208⟩
instance ie209:En prog 209:=⟨by kernel_rfl⟩
instance :FnI prog 209 Tryz.f209 9:=⟨func209,ntmps209⟩
instance ie210:En prog 210:=⟨by kernel_rfl⟩
instance :FnI prog 210 Tryz.f210 17:=⟨func210,ntmps210⟩
instance ie211:En prog 211:=⟨by kernel_rfl⟩
instance :FnI prog 211 Tryz.f211 12:=⟨func211,ntmps211⟩
instance :En prog 212:=⟨by kernel_rfl⟩
instance :FnI prog 212 Tryz.f212 29:=⟨func212,ntmps212⟩
instance ie213:En prog 213:=⟨by kernel_rfl⟩
instance :FnI prog 213 Tryz.f213 27:=⟨func213,ntmps213⟩
instance :En prog 214:=⟨by kernel_rfl⟩
instance :FnI prog 214 Tryz.f214 6:=⟨func214,ntmps214⟩
instance ie215:En prog 215:=⟨by kernel_rfl⟩
instance :FnI prog 215 Tryz.f215 9:=⟨func215,ntmps215⟩
instance ie216:En prog 216:=⟨by kernel_rfl⟩
instance :FnI prog 216 Tryz.f216 10:=⟨func216,ntmps216⟩
instance :En prog 217:=⟨by kernel_rfl⟩
instance :FnI prog 217 Tryz.f217 22:=⟨func217,ntmps217⟩
instance :En prog 218:=⟨by kernel_rfl⟩
instance :FnI prog 218 Tryz.f218 5:=⟨func218,ntmps218⟩
instance ie219:En prog 219:=⟨by kernel_rfl⟩
instance :FnI prog 219 Tryz.f219 14:=⟨func219,ntmps219⟩
instance ie220:En prog 220:=⟨by kernel_rfl⟩
instance :FnI prog 220 Tryz.f220 18:=⟨func220,ntmps220⟩
instance :En prog 221:=⟨by kernel_rfl⟩
instance :FnI prog 221 Tryz.f221 4:=⟨func221,ntmps221⟩
instance :En prog 222:=⟨by kernel_rfl⟩
instance :FnI prog 222 Tryz.f222 25:=⟨func222,ntmps222⟩
instance :En prog 223:=⟨by kernel_rfl⟩
instance :FnI prog 223 Tryz.f223 63:=⟨func223,ntmps223⟩
instance :En prog 224:=⟨by kernel_rfl⟩
instance :FnI prog 224 Tryz.f224 6:=⟨func224,ntmps224⟩
instance ie225:En prog 225:=⟨by kernel_rfl⟩
instance :FnI prog 225 Tryz.f225 52:=⟨func225,ntmps225⟩
instance ie226:En prog 226:=⟨by kernel_rfl⟩
instance :FnI prog 226 Tryz.f226 10:=⟨func226,ntmps226⟩
instance :En prog 227:=⟨by kernel_rfl⟩
instance :FnI prog 227 Tryz.f227 39:=⟨func227,ntmps227⟩
instance :En prog 228:=⟨by kernel_rfl⟩
instance :FnI prog 228 Tryz.f228 163:=⟨func228,ntmps228⟩
instance ie229:En prog 229:=⟨by kernel_rfl⟩
instance :FnI prog 229 Tryz.f229 6:=⟨func229,ntmps229⟩
instance :En prog 230:=⟨by kernel_rfl⟩
instance :FnI prog 230 Tryz.f230 154:=⟨func230,ntmps230⟩
instance :En prog 231:=⟨by kernel_rfl⟩
instance :FnI prog 231 Tryz.f231 53:=⟨func231,ntmps231⟩
instance ie237:En prog 237:=⟨by kernel_rfl⟩
instance :FnI prog 237 Tryz.f237 9:=⟨func237,ntmps237⟩
instance ie238:En prog 238:=⟨by kernel_rfl⟩
instance :FnI prog 238 Tryz.f238 9:=⟨func238,ntmps238⟩
instance ie239:En prog 239:=⟨by kernel_rfl⟩
instance :FnI prog 239 Tryz.f239 9:=⟨func239,ntmps239⟩
instance :En prog 240:=⟨by kernel_rfl⟩
instance :FnI prog 240 Tryz.f240 50:=⟨func240,ntmps240⟩
instance :En prog 241:=⟨by kernel_rfl⟩
instance :FnI prog 241 Tryz.f241 5:=⟨func241,ntmps241⟩
instance :En prog 242:=⟨by kernel_rfl⟩
instance :FnI prog 242 Tryz.f242 5:=⟨func242,ntmps242⟩
instance :En prog 243:=⟨by kernel_rfl⟩
instance :FnI prog 243 Tryz.f243 13:=⟨func243,ntmps243⟩
instance ie244:En prog 244:=⟨by kernel_rfl⟩
instance :FnI prog 244 Tryz.f244 37:=⟨func244,ntmps244⟩
instance :En prog 245:=⟨by kernel_rfl⟩
instance :FnI prog 245 Tryz.f245 40:=⟨func245,ntmps245⟩
instance :En prog 246:=⟨by kernel_rfl⟩
instance :FnI prog 246 Tryz.f246 53:=⟨func246,ntmps246⟩
instance :En prog 247:=⟨by kernel_rfl⟩
instance :En prog 248:=⟨by kernel_rfl⟩
instance :FnI prog 248 Tryz.f248 55:=⟨func248,ntmps248⟩
instance :En prog 249:=⟨by kernel_rfl⟩
instance :FnI prog 249 Tryz.f249 52:=⟨func249,ntmps249⟩
instance :En prog 250:=⟨by kernel_rfl⟩
instance :FnI prog 250 Tryz.f250 30:=⟨func250,ntmps250⟩
instance :En prog 251:=⟨by kernel_rfl⟩
instance :FnI prog 251 Tryz.f251 13:=⟨func251,ntmps251⟩
instance ie252:En prog 252:=⟨by kernel_rfl⟩
instance :FnI prog 252 Tryz.f252 61:=⟨func252,ntmps252⟩
instance ie254:En prog 254:=⟨by kernel_rfl⟩
instance :FnI prog 254 Tryz.f254 12:=⟨func254,ntmps254⟩
instance ie255:En prog 255:=⟨by kernel_rfl⟩
instance :FnI prog 255 Tryz.f255 16:=⟨func255,ntmps255⟩
instance :En prog 256:=⟨by kernel_rfl⟩
instance :En prog 257:=⟨by kernel_rfl⟩
instance :FnI prog 257 Tryz.f257 5:=⟨func257,ntmps257⟩
instance :En prog 258:=⟨by kernel_rfl⟩
instance ie260:En prog 260:=⟨by kernel_rfl⟩
instance :FnI prog 260 Tryz.f260 18:=⟨func260,ntmps260⟩
instance ie261:En prog 261:=⟨by kernel_rfl⟩
instance :FnI prog 261 Tryz.f261 9:=⟨func261,ntmps261⟩
instance :En prog 262:=⟨by kernel_rfl⟩
instance :FnI prog 262 Tryz.f262 43:=⟨func262,ntmps262⟩
instance :En prog 263:=⟨by kernel_rfl⟩
instance :FnI prog 263 Tryz.f263 59:=⟨func263,ntmps263⟩
instance :En prog 264:=⟨by kernel_rfl⟩
instance :FnI prog 264 Tryz.f264 42:=⟨func264,ntmps264⟩
instance ie265:En prog 265:=⟨by kernel_rfl⟩
instance :FnI prog 265 Tryz.f265 21:=⟨func265,ntmps265⟩
instance :En prog 266:=⟨by kernel_rfl⟩
instance :En prog 269:=⟨by kernel_rfl⟩
instance :FnI prog 269 Tryz.f269 54:=⟨func269,ntmps269⟩
instance :En prog 274:=⟨by kernel_rfl⟩
instance :FnI prog 274 Tryz.f274 2:=⟨func274,ntmps274⟩
instance :En prog 275:=⟨by kernel_rfl⟩
instance :FnI prog 275 Tryz.f275 35:=⟨func275,ntmps275⟩
instance :En prog 278:=⟨by kernel_rfl⟩
instance :FnI prog 278 Tryz.f278 15:=⟨func278,ntmps278⟩
instance :En prog 279:=⟨by kernel_rfl⟩
instance :En prog 280:=⟨by kernel_rfl⟩
instance :En prog 281:=⟨by kernel_rfl⟩
instance :FnI prog 309 Tryz.f309 10:=⟨func309,ntmps309⟩
instance :FnI prog 310 Tryz.f310 6:=⟨func310,ntmps310⟩
instance :FnI prog 311 Tryz.f311 34:=⟨func311,ntmps311⟩
instance :FnI prog 312 Tryz.f312 22:=⟨func312,ntmps312⟩
instance :En prog 313:=⟨by kernel_rfl⟩
instance :FnI prog 313 Tryz.f313 12:=⟨func313,ntmps313⟩
instance :FnI prog 314 Tryz.f314 10:=⟨func314,ntmps314⟩
instance :FnI prog 315 Tryz.f315 3:=⟨func315,ntmps315⟩
instance :FnI prog 316 Tryz.f316 9:=⟨func316,ntmps316⟩
instance :FnI prog 317 Tryz.f317 11:=⟨func317,ntmps317⟩
end Go.Proofs.YtobaafdejnimkaaGreatDoor
namespace Go.Proofs.YtobaafdejnimkaaGreatDoor
open Tryz
open Go.PF Go.RowKit Go.Ord
attribute [local irreducible] TW CW KW DW
variable {w:World} {v:Value} {d:bA}
abbrev SD (w:World) (v:Value) (d:bA):Prop:=SL (sliceT bC) (fun k=>k<w.heap.size) w v d
theorem aU {w':World} (h:SD w v d) (hb:Below w.heap.size w w'):SD w' v d:=h.step (lU dV) hb
theorem rO (hd:SD w v d):Gives prog 151 #[v] w (ZJ w (.bool (dec (WfD d)))):=by
 obtain ⟨A,cap,rfl,hcap⟩:=hd.form;have hmax:d.length<=9223372036854775807:=hd.len.2.2;refine gv (f:=151) ?_;refine ag ?_;refine ai rfl (fun hbig=> ?_) (fun hsmall=> ?_)
 ·refine ag ?_;refine aW rfl ⟨ZA,by rw [az (fun h=>by have:=h.few; omega)]⟩
 have h12:d.length<=12:=by omega
 refine ag ?_;refine aJ [0,16,17] (fun k:Nat=> [(18,none,.int .i64 (k:Int))])
  (fun k W=>k<=d.length/\W=w/\ ∀(i:Nat) (r:List Int),i<k->d[i]?=some r->RowOK d i r) (fun k=>d.length-k) 0 ⟨by omega,rfl,fun i r hi=>by omega⟩ ?_
 rintro k W ⟨hk,rfl,hrows⟩;refine ag ?_;refine ai rfl (fun hlt=> ?_) (fun hge=> ?_)
 ·have hkl:k<d.length:=by omega
  obtain ⟨r,hr⟩: ∃r,d[k]?=some r:=⟨d[k],ZD hkl⟩;obtain ⟨ad,rfl⟩:=hd.addr (by omega);obtain ⟨rv,hcell,hrow⟩:=hd.row hr;obtain ⟨B,rcap,rfl,_⟩:=hrow.form;by_cases hlen:r.length=d.length
  ·obtain ⟨bd,rfl⟩:=hrow.addr (by omega);obtain ⟨x,hx⟩: ∃x,r[k]?=some x:=⟨r[k]'(by omega),ZD (by omega)⟩;refine ag ?_;refine aj rfl hcell ?_;refine ag ?_;refine aj rfl (hrow.getI hx) ?_;refine ag ?_;refine aI [0,3,4,16,17,18,34] rfl ?_;refine au rfl (fun hbad=> ?_) (fun hgood=> ?_)
   ·refine ag ?_;refine aW rfl ⟨ZA,?_⟩;rw [az];intro h;have:=(h.rowOK hr).diag;rw [hx] at this;simp [hlen] at hbad;exact hbad (by simpa using this)
   have hx0:x=0:=by simpa [hlen] using hgood
   refine ag ?_;refine aJ [0,16,17,18,35,36] (fun j:Nat=> [(37,none,.int .i64 (j:Int))])
    (fun j W'=>j<=r.length/\W'=W/\ ∀(i:Nat) (y:Int),i<j->r[i]?=some y-> -1<=y/\y<=1000000) (fun j=>r.length-j) 0 ⟨by omega,rfl,fun i y hi=>by omega⟩ ?_
   rintro j W' ⟨hj,rfl,hrng⟩;refine ag ?_;refine ai rfl (fun hlt2=> ?_) (fun hge2=> ?_)
   ·have hjl:j<r.length:=by omega
    obtain ⟨y,hy⟩: ∃y,r[j]?=some y:=⟨r[j],ZD hjl⟩;refine ag ?_;refine aj rfl (hrow.getI hy) ?_;refine ag ?_;refine aI [0,6,16,17,18,35,36,37,46] rfl ?_;refine au rfl (fun hbad2=> ?_) (fun hgood2=> ?_)
    ·refine ag ?_;refine aW rfl ⟨ZA,?_⟩;rw [az];intro h;have:=(h.rowOK hr).rng j y hy;simp at hbad2;omega
    refine ag ?_;refine aC (j+1) ⟨by omega,rfl,fun i z hi hz=> ?_⟩;rcases ZI i j with h|h
    ·exact hrng i z h hz
    ·obtain rfl:i=j:=by omega
     rw [hy] at hz; cases hz;simp at hgood2;omega
   ·refine ag ?_;refine aC (k+1) ⟨by omega,rfl,fun i r' hi hr'=> ?_⟩;rcases ZI i k with h|h
    ·exact hrows i r' h hr'
    ·obtain rfl:i=k:=by omega
     rw [hr] at hr'; cases hr';exact ⟨hlen,by rw [hx,hx0],fun j y hy=>hrng j y (by have:=(ZE hy).1; omega) hy⟩
  ·skip
   refine ag ?_;refine aj rfl hcell ?_;refine aT df rfl ⟨ct,trivial⟩ (fun _=>trivial) ?_;refine aT df rfl ⟨ct,trivial⟩ (fun _=>trivial) ?_;refine bG (aS [0,3,4,16,17,18] [(0,_,_),(3,_,_),(4,_,_),(16,_,_),(17,_,_),(18,_,_)] rfl (aD ?_));refine cO (cO (bE ?_));refine aT aX rfl ⟨ct,trivial⟩ (fun _=>trivial) ?_;refine aT gI rfl ⟨ct,trivial⟩ (fun _=>trivial) ?_;refine aT aX rfl ⟨ct,trivial⟩ (fun _=>trivial) ?_;refine aT gI rfl ⟨ct,trivial⟩ (fun _=>trivial) ?_;refine aT zH rfl ⟨ct,ct,trivial⟩ (fun _=>trivial) ?_;refine aT aX rfl ⟨ct,trivial⟩ (fun _=>trivial) ?_;refine bT (.bool false) rfl (by simp [aV]; omega) rfl ?_;refine bT (.bool false) rfl (by simp [aV]; omega) rfl ?_;refine bT (.bool false) rfl (by simp [aV]; omega) rfl ?_;refine bT (.bool false) rfl (by simp [aV]; omega) rfl ?_;refine bT (.bool false) rfl (by simp [aV]; omega) rfl ?_;refine ag ?_;refine aI [0,3,4,16,17,18,34] rfl ?_;refine au rfl (fun hbad=> ?_) (fun hgood=> ?_)
   ·refine ag ?_;refine aW rfl ⟨ZA,by rw [az (fun h=>hlen (h.rowOK hr).len)]⟩
   exfalso;simp at hgood;omega
 ·have hrows': ∀(i:Nat) (r:List Int),d[i]?=some r->RowOK d i r:=fun i r hr=>hrows i r (by have:=(ZE hr).1; omega) hr;have hall: ∀i,i<d.length-> ∃r,d[i]?=some r/\r.length=d.length:=fun i hi=>⟨d[i],ZD hi,(hrows' i _ (ZD hi)).len⟩;refine ag ?_;refine aJ [0,49,50] (fun i:Nat=> [(51,none,.int .i64 (i:Int))])
   (fun i W'=>i<=d.length/\W'=W/\ ∀a b c,a<i->b<d.length->c<d.length->EM d a b c) (fun i=>d.length-i) 0 ⟨by omega,rfl,fun a b c ha=>by omega⟩ ?_
  rintro i W' ⟨hi,rfl,htri⟩;refine ag ?_;refine ai rfl (fun hlt1=> ?_) (fun hge1=> ?_)
  ·have hil:i<d.length:=by omega
   obtain ⟨r,hr,hrl⟩:=hall i hil;obtain ⟨ad,rfl⟩:=hd.addr (by omega);obtain ⟨rv,hcell,hrow⟩:=hd.row hr;obtain ⟨B,rcap,rfl,_⟩:=hrow.form;obtain ⟨bd,rfl⟩:=hrow.addr (by omega);refine ag ?_;refine aj rfl hcell ?_;refine ag ?_;refine aJ [0,7,8,49,50,51,56,57] (fun k:Nat=> [(58,none,.int .i64 (k:Int))])
    (fun k W2=>k<=d.length/\W2=W'/\ ∀b c,b<k->c<d.length->EM d i b c) (fun k=>d.length-k) 0 ⟨by omega,rfl,fun b c hb=>by omega⟩ ?_
   rintro k W2 ⟨hk2,rfl,htri2⟩;refine ag ?_;refine ai rfl (fun hlt2=> ?_) (fun hge2=> ?_)
   ·have hkl:k<d.length:=by omega
    obtain ⟨x,hx⟩: ∃x,r[k]?=some x:=⟨r[k]'(by omega),ZD (by omega)⟩;have hxa:=gH hr hx;obtain ⟨r2,hr2,hr2l⟩:=hall k hkl;obtain ⟨rv2,hcell2,hrow2⟩:=hd.row hr2;obtain ⟨B2,rcap2,rfl,_⟩:=hrow2.form;obtain ⟨bd2,rfl⟩:=hrow2.addr (by omega);have hxr:=(hrows' i r hr).rng k x hx;refine ag ?_;refine aj rfl (hrow.getI hx) ?_;refine ag ?_;refine aI [0,7,8,9,10,49,50,51,56,57,58,69] rfl ?_;refine au rfl (fun hskip=> ?_) (fun hgo=> ?_)
    ·refine ag ?_;refine aC (k+1) ⟨by omega,rfl,fun b c hb hc=> ?_⟩;rcases ZI b k with h|h
     ·exact htri2 b c h hc
     ·obtain rfl:b=k:=by omega
      intro q1 q2;rw [hxa] at q1;simp at hskip;have hib:i=b:=by omega
      subst hib;have hx0:x=0:=by
       have:=(hrows' i r hr).diag;rw [hx] at this;simpa using this
      rw [hxa,hx0];exact ⟨q2,by omega⟩
    have hx1:x≠ -1:=fun h=>by simp [h] at hgo
    refine ag ?_;refine aj rfl hcell2 ?_;refine ag ?_;refine aJ [0,7,8,10,49,50,51,56,57,58,73,74] (fun j:Nat=> [(75,none,.int .i64 (j:Int))])
     (fun j W3=>j<=d.length/\W3=W2/\ ∀c,c<j->EM d i k c) (fun j=>d.length-j) 0 ⟨by omega,rfl,fun c hc=>by omega⟩ ?_
    rintro j W3 ⟨hj3,rfl,htri3⟩;refine ag ?_;refine ai rfl (fun hlt3=> ?_) (fun hge3=> ?_)
    ·have hjl:j<d.length:=by omega
     obtain ⟨y,hy⟩: ∃y,r2[j]?=some y:=⟨r2[j]'(by omega),ZD (by omega)⟩;obtain ⟨z,hz⟩: ∃z,r[j]?=some z:=⟨r[j]'(by omega),ZD (by omega)⟩;have hya:=gH hr2 hy;have hza:=gH hr hz;have hyr:=(hrows' k r2 hr2).rng j y hy;refine ag ?_;refine aj rfl (hrow2.getI hy) ?_;refine ag ?_;refine aj rfl (hrow.getI hz) ?_;refine ag ?_;refine aj rfl (hrow.getI hz) ?_;refine ag ?_;refine aI [0,7,8,10,11,12,49,50,51,56,57,58,73,74,75,98] rfl ?_;refine au rfl (fun hbad=> ?_) (fun hgood=> ?_)
     ·refine ag ?_;refine aW rfl ⟨ZA,?_⟩;rw [az];intro h;have ht:=h.tri i k j hil hkl hjl (by rw [hxa]; exact hx1);rw [hxa,hya,hza] at ht;simp at hbad;have:=ht hbad.1;omega
     refine ag ?_;refine aC (j+1) ⟨by omega,rfl,fun c hc=> ?_⟩;rcases ZI c j with h|h
     ·exact htri3 c h
     ·obtain rfl:c=j:=by omega
      intro _ q2;rw [hya] at q2;rw [hxa,hya,hza];simp [q2] at hgood;omega
    ·refine ag ?_;refine aC (k+1) ⟨by omega,rfl,fun b c hb hc=> ?_⟩;rcases ZI b k with h|h
     ·exact htri2 b c h hc
     ·obtain rfl:b=k:=by omega
      exact htri3 c (by omega)
   ·refine ag ?_;refine aC (i+1) ⟨by omega,rfl,fun a b c ha hb hc=> ?_⟩;rcases ZI a i with h|h
    ·exact htri a b c h hb hc
    ·obtain rfl:a=i:=by omega
     exact htri2 b c (by omega) hc
  ·refine ag ?_;refine aW rfl ⟨ZA,by rw [ay (zQ h12 hrows' (fun a b c ha hb hc=>htri a b c (by omega) hb hc))]⟩
theorem pF (hd:SD w v d):Gives prog 165 #[v] w (ZJ w (.bool (dec (WfD d)))):=by
 obtain ⟨A,cap,rfl,hcap⟩:=hd.form;have hmax:d.length<=9223372036854775807:=hd.len.2.2;refine gv (f:=165) ?_;refine ag ?_;refine ai rfl (fun hbig=> ?_) (fun hsmall=> ?_)
 ·refine ag ?_;refine aW rfl ⟨ZA,by rw [az (fun h=>by have:=h.few; omega)]⟩
 have h12:d.length<=12:=by omega
 refine ag ?_;refine aJ [0,3] (fun k:Nat=> [(4,none,.int .i64 (k:Int))])
  (fun k W=>k<=d.length/\W=w/\ ∀(i:Nat) (r:List Int),i<k->d[i]?=some r->RowOK d i r) (fun k=>d.length-k) 0 ⟨by omega,rfl,fun i r hi=>by omega⟩ ?_
 rintro k W ⟨hk,rfl,hrows⟩;refine ag ?_;refine ai rfl (fun hlt=> ?_) (fun hge=> ?_)
 ·have hkl:k<d.length:=by omega
  obtain ⟨r,hr⟩: ∃r,d[k]?=some r:=⟨d[k],ZD hkl⟩;obtain ⟨ad,rfl⟩:=hd.addr (by omega);obtain ⟨rv,hcell,hrow⟩:=hd.row hr;obtain ⟨B,rcap,rfl,_⟩:=hrow.form;by_cases hlen:r.length=d.length
  ·obtain ⟨bd,rfl⟩:=hrow.addr (by omega);obtain ⟨x,hx⟩: ∃x,r[k]?=some x:=⟨r[k]'(by omega),ZD (by omega)⟩;refine ag ?_;refine aj rfl hcell ?_;refine ag ?_;refine aj rfl hcell ?_;refine ag ?_;refine aj rfl (hrow.getI hx) ?_;refine ag ?_;refine aI [0,3,4,34] rfl ?_;refine au rfl (fun hbad=> ?_) (fun hgood=> ?_)
   ·refine ag ?_;refine aW rfl ⟨ZA,?_⟩;rw [az];intro h;have:=(h.rowOK hr).diag;rw [hx] at this;simp [hlen] at hbad;exact hbad (by simpa using this)
   have hx0:x=0:=by simpa [hlen] using hgood
   refine ag ?_;refine aJ [0,3,4] (fun j:Nat=> [(5,none,.int .i64 (j:Int))])
    (fun j W'=>j<=r.length/\W'=W/\ ∀(i:Nat) (y:Int),i<j->r[i]?=some y-> -1<=y/\y<=1000000) (fun j=>r.length-j) 0 ⟨by omega,rfl,fun i y hi=>by omega⟩ ?_
   rintro j W' ⟨hj,rfl,hrng⟩;refine ag ?_;refine ai rfl (fun hlt2=> ?_) (fun hge2=> ?_)
   ·have hjl:j<r.length:=by omega
    obtain ⟨y,hy⟩: ∃y,r[j]?=some y:=⟨r[j],ZD hjl⟩;refine ag ?_;refine aj rfl hcell ?_;refine ag ?_;refine aj rfl (hrow.getI hy) ?_;refine ag ?_;refine aj rfl hcell ?_;refine ag ?_;refine aj rfl (hrow.getI hy) ?_;refine ag ?_;refine aI [0,3,4,5,57] rfl ?_;refine au rfl (fun hbad2=> ?_) (fun hgood2=> ?_)
    ·refine ag ?_;refine aW rfl ⟨ZA,?_⟩;rw [az];intro h;have:=(h.rowOK hr).rng j y hy;simp at hbad2;omega
    refine ag ?_;refine aC (j+1) ⟨by omega,rfl,fun i z hi hz=> ?_⟩;rcases ZI i j with h|h
    ·exact hrng i z h hz
    ·obtain rfl:i=j:=by omega
     rw [hy] at hz; cases hz;simp at hgood2;omega
   ·refine ag ?_;refine aC (k+1) ⟨by omega,rfl,fun i r' hi hr'=> ?_⟩;rcases ZI i k with h|h
    ·exact hrows i r' h hr'
    ·obtain rfl:i=k:=by omega
     rw [hr] at hr'; cases hr';exact ⟨hlen,by rw [hx,hx0],fun j y hy=>hrng j y (by have:=(ZE hy).1; omega) hy⟩
  ·skip
   refine ag ?_;refine aj rfl hcell ?_;refine aT gI rfl ⟨ct,trivial⟩ (fun _=>trivial) ?_;refine aT aX rfl ⟨ct,trivial⟩ (fun _=>trivial) ?_;refine aT zH rfl ⟨ct,ct,trivial⟩ (fun _=>trivial) ?_;refine aT aX rfl ⟨ct,trivial⟩ (fun _=>trivial) ?_;refine bT (.bool false) rfl (by simp [aV]; omega) rfl ?_;refine bT (.bool false) rfl (by simp [aV]; omega) rfl ?_;refine bT (.bool false) rfl (by simp [aV]; omega) rfl ?_;refine bT (.bool false) rfl (by simp [aV]; omega) rfl ?_;refine bT (.bool false) rfl (by simp [aV]; omega) rfl ?_;refine bT (.bool false) rfl (by simp [aV]; omega) rfl ?_;refine bT (.bool false) rfl (by simp [aV]; omega) rfl ?_;refine bT (.bool false) rfl (by simp [aV]; omega) rfl ?_;refine ag ?_;refine aI [0,3,4,34] rfl ?_;refine au rfl (fun hbad=> ?_) (fun hgood=> ?_)
   ·refine ag ?_;refine aW rfl ⟨ZA,by rw [az (fun h=>hlen (h.rowOK hr).len)]⟩
   exfalso;simp at hgood;omega
 ·have hrows': ∀(i:Nat) (r:List Int),d[i]?=some r->RowOK d i r:=fun i r hr=>hrows i r (by have:=(ZE hr).1; omega) hr;have hall: ∀i,i<d.length-> ∃r,d[i]?=some r/\r.length=d.length:=fun i hi=>⟨d[i],ZD hi,(hrows' i _ (ZD hi)).len⟩;refine ag ?_;refine aJ [0,3] (fun i:Nat=> [(6,none,.int .i64 (i:Int))])
   (fun i W'=>i<=d.length/\Below W.heap.size W W'/\ ∀a b c,a<i->b<d.length->c<d.length->EM d a b c) (fun i=>d.length-i) 0 ⟨by omega,ZA,fun a b c ha=>by omega⟩ ?_
  rintro i W' ⟨hi,hB1,htri⟩;refine ag ?_;refine ai rfl (fun hlt1=> ?_) (fun hge1=> ?_)
  ·have hil:i<d.length:=by omega
   obtain ⟨r,hr,hrl⟩:=hall i hil;obtain ⟨ad,rfl⟩:=hd.addr (by omega);refine ag ?_;refine aJ [0,3,6] (fun j:Nat=> [(7,none,.int .i64 (j:Int))])
    (fun j W2=>j<=d.length/\Below W.heap.size W W2/\ ∀b c,b<d.length->c<j->EM d i b c) (fun j=>d.length-j) 0 ⟨by omega,hB1,fun b c _ hb=>by omega⟩ ?_
   rintro j W2 ⟨hj2,hB2,htri2⟩;refine ag ?_;refine ai rfl (fun hlt2=> ?_) (fun hge2=> ?_)
   ·have hjl:j<d.length:=by omega
    obtain ⟨z,hz⟩: ∃z,r[j]?=some z:=⟨r[j]'(by omega),ZD (by omega)⟩;have hza:=gH hr hz;refine ag ?_;refine aJ [0,3,6,7] (fun k:Nat=> [(8,none,.int .i64 (k:Int))])
     (fun k W3=>k<=d.length/\Below W.heap.size W W3/\ ∀b,b<k->EM d i b j) (fun k=>d.length-k) 0 ⟨by omega,hB2,fun c hc=>by omega⟩ ?_
    rintro k W3 ⟨hk3,hB3,htri3⟩;refine ag ?_;refine ai rfl (fun hlt3=> ?_) (fun hge3=> ?_)
    ·have hkl:k<d.length:=by omega
     obtain ⟨x,hx⟩: ∃x,r[k]?=some x:=⟨r[k]'(by omega),ZD (by omega)⟩;have hxa:=gH hr hx;obtain ⟨r2,hr2,hr2l⟩:=hall k hkl;have hd3:=aU hd hB3;obtain ⟨rv,hcell,hrow⟩:=hd3.row hr;obtain ⟨B,rcap,rfl,_⟩:=hrow.form;obtain ⟨bd,rfl⟩:=hrow.addr (by omega);obtain ⟨rv2,hcell2,hrow2⟩:=hd3.row hr2;obtain ⟨B2,rcap2,rfl,_⟩:=hrow2.form;obtain ⟨bd2,rfl⟩:=hrow2.addr (by omega);have hxr:=(hrows' i r hr).rng k x hx;obtain ⟨y,hy⟩: ∃y,r2[j]?=some y:=⟨r2[j]'(by omega),ZD (by omega)⟩;have hya:=gH hr2 hy;have hyr:=(hrows' k r2 hr2).rng j y hy;have hzr:=(hrows' i r hr).rng j z hz;refine ag ?_;refine bg mixed (by kernel_rfl) ?_;refine aZ ?_;refine aB rfl hcell ?_;refine aZ ?_;refine aB rfl (hrow.getI hx) ?_;refine aZ ?_;refine aB rfl hcell2 ?_;refine aZ ?_;refine aB rfl (hrow2.getI hy) ?_;refine aZ ?_;refine aB rfl hcell ?_;refine aZ ?_;refine aB rfl (hrow.getI hz) ?_;refine aZ ?_;refine aB rfl hcell ?_;refine aZ ?_;refine aB rfl (hrow.getI hz) ?_;refine aZ ?_;refine aB rfl hcell ?_;refine aZ ?_;refine aB rfl (hrow.getI hx) ?_;refine aZ ?_;refine aB rfl hcell2 ?_;refine aZ ?_;refine aB rfl (hrow2.getI hy) ?_;refine aZ ?_;refine bR [0,3,6,7,8,125] rfl fun W4 hb4=> ?_;refine aD ?_
     have hB4:=hB3.trans (hb4.mono hB3.size);refine au rfl (fun hbad=> ?_) (fun hgood=> ?_)
     ·refine ag ?_;refine aW rfl ⟨hB4,?_⟩;rw [az];intro h;have ht:=h.tri i k j hil hkl hjl;rw [hxa,hya,hza] at ht;simp at hbad;have:=ht (by omega) (by omega);omega
     refine ag ?_;refine aC (k+1) ⟨by omega,hB4,fun b hb=> ?_⟩;rcases ZI b k with h|h
     ·exact htri3 b h
     ·obtain rfl:b=k:=by omega
      intro q1 q2;rw [hxa] at q1;rw [hya] at q2;rw [hxa,hya,hza];have e1:0<=x:=by omega
      have e2:0<=y:=by omega
      simp [e1,e2] at hgood;omega
    ·refine ag ?_;refine aC (j+1) ⟨by omega,hB3,fun b c hb hc=> ?_⟩;rcases ZI c j with h|h
     ·exact htri2 b c hb h
     ·obtain rfl:c=j:=by omega
      exact htri3 b (by omega)
   ·refine ag ?_;refine aC (i+1) ⟨by omega,hB2,fun a b c ha hb hc=> ?_⟩;rcases ZI a i with h|h
    ·exact htri a b c h hb hc
    ·obtain rfl:a=i:=by omega
     exact htri2 b c hb (by omega)
  ·refine ag ?_;refine aW rfl ⟨hB1,by rw [ay (zQ h12 hrows' (fun a b c ha hb hc=>htri a b c (by omega) hb hc))]⟩
end Go.Proofs.YtobaafdejnimkaaGreatDoor
namespace Go.PF
open Go.RowKit Go.Ord
def evT:Ty Ev where
 n:=4
 rep:=fun F w cs e=> ∃v,cs= [.int .i64 e.office,.int .i64 e.low,.int .i64 e.high,v]/\eB e.office/\eB e.low/\eB e.high/\SL bC F w v e.needs
 len:=fun _ _ _ _ h=>by obtain ⟨v,h,_⟩:=h; rw [h]; rfl
 mono:=fun _ _ _ _ _ hk h=>by obtain ⟨v,h,h1,h2,h3,hs⟩:=h; exact ⟨v,h,h1,h2,h3,hs.mono hk⟩
 wider:=fun _ _ _ _ _ hF h=>by obtain ⟨v,h,h1,h2,h3,hs⟩:=h; exact ⟨v,h,h1,h2,h3,hs.wider hF⟩
theorem xc:Ty.Now evT:=⟨by decide,fun F w cs e ⟨v,h,h1,h2,h3,hs⟩=>⟨v,h,h1,h2,h3,hs.now dV⟩⟩
abbrev SE (w:World) (v:Value) (l:List Ev):Prop:=SL evT (fun k=>k<w.heap.size) w v l
theorem aY {w w':World} {v:Value} {l:List Ev} (h:SE w v l) (hb:Below w.heap.size w w'):SE w' v l:=h.step xc hb
theorem SE.get {F:Nat->Prop} {w:World} {ad:Addr} {n cap:Nat} {l:List Ev} (h:SL evT F w (.slice (some ad) n cap) l) {i:Nat} {e:Ev} (hx:l[i]?=some e) :
  ∃ v,(∀j u,[Value.int .i64 e.office,.int .i64 e.low,.int .i64 e.high,v][j]?=some u->w.cell? ((ad.add ((i:Int).toNat*4)).add j)=some u)/\eB e.office/\eB e.low/\eB e.high/\SL bC F w v e.needs:=by
 obtain ⟨ad',cs,h1,_,⟨v,rfl,g1,g2,g3,hs⟩,hc⟩:=h.at hx;cases h1;exact ⟨v,hc,g1,g2,g3,hs⟩
theorem Blk.sub {w:World} {g:Nat} {t:TypeId} {cs:List Value} (h:Blk w g t cs) (k:Nat) (ds:List Value) (hk:cs.drop k=ds): ∀j v,ds[j]?=some v->w.cell? ((Addr.add ⟨g,0,none⟩ k).add j)=some v:=fun j v hj=>by
 rw [Addr.add_add];refine h.fld ?_;rw [<-hk,List.getElem?_drop] at hj;exact hj
def PI (F:Nat->Prop) (w:World) (cs:List Value) (e:Ev):Prop:=evT.rep F w cs e
end Go.PF
namespace Go.Proofs.YtobaafdejnimkaaGreatDoor
open Tryz
open Go.PF Go.RowKit Go.Ord
attribute [local irreducible] TW CW KW DW
variable {w:World} {d:bA} {m g n i c k:Nat} {us:List U} {u:U} {e:Ev} {A:Option Addr} {dv uv fv:Value} {s:St}
structure WfE (d:bA) (l:List Ev):Prop where
 wd:WfD d
 few:l.length<=16
 each: ∀e∈l,EOK d e
theorem Jz {v u:Value} {l:List Ev} (hd:SD w v d) (hl:SE w u l):Gives prog 79 #[v,u,.slice none 0 0] w fun x w'=>Below w.heap.size w w'/\x= .bool (dec (WfE d l)):=by
 obtain ⟨A,cap,rfl,hcap⟩:=hd.form;obtain ⟨B,lcap,rfl,hlcap⟩:=hl.form;have hmax:d.length<=9223372036854775807:=hd.len.2.2;have hlmax:l.length<=9223372036854775807:=hl.len.2.2;refine gv (f:=79) ?_;refine ag ?_;refine aG rfl rfl rfl rfl ?_;rintro g w1 f1;refine ag ?_;refine aA rfl (rO (aU hd f1.below)) ?_;rintro v2 w2 ⟨hb2,rfl⟩;have hB2:Below w.heap.size w w2:=f1.below.step hb2;have hblk:=f1.blk.next hb2;refine ag ?_;refine aj rfl (hblk.cell 0) ?_;refine ag ?_;refine au rfl (fun hbad=> ?_) (fun hgood=> ?_)
 ·refine ag ?_;refine aW rfl ⟨hB2,?_⟩;rw [az];intro h;simp [ay h.wd] at hbad;have:=h.few;omega
 have hwd:WfD d:=dec_iff.1 (by cases hq:dec (WfD d)<;>simp_all);have hfew:l.length<=16:=by
  simp [ay hwd] at hgood;omega
 refine ag ?_;refine aj rfl (hblk.cell 0) ?_;refine ag ?_;refine aJ [0,1,2,4,6,21,22] (fun k:Nat=> [(23,none,.int .i64 (k:Int))])
  (fun k W=>k<=l.length/\Below w.heap.size w W/\Blk W g 31 [.slice B l.length lcap]/\ ∀(i:Nat) (e:Ev),i<k->l[i]?=some e->EOK d e) (fun k=>l.length-k) 0 ⟨by omega,hB2,hblk,fun i e hi=>by omega⟩ ?_
 rintro k W ⟨hk,hB3,hblk3,heach⟩;refine ag ?_;refine ai rfl (fun hlt=> ?_) (fun hge=> ?_)
 ·have hkl:k<l.length:=by omega
  obtain ⟨e,he⟩: ∃e,l[k]?=some e:=⟨l[k],ZD hkl⟩;have hl3:=aY hl hB3;obtain ⟨ad,rfl⟩:=hl3.addr (by omega);obtain ⟨nv,hcells,i1,i2,i3,hneeds⟩:=SE.get hl3 he;obtain ⟨C,ncap,rfl,_⟩:=hneeds.form;refine ag ?_;refine aF rfl (hcells) ?_;refine aM rfl nY rfl is60.q rfl rfl ?_;rintro g4 w4 f4;refine ag ?_;refine aj rfl (f4.blk.fld rfl) ?_;refine ag ?_;refine aj rfl (f4.blk.fld rfl) ?_;refine ag ?_;refine aI [0,1,2,4,6,8,21,22,23,36] rfl ?_;refine au rfl (fun hbad2=> ?_) (fun hgood2=> ?_)
  ·refine ag ?_;refine aW rfl ⟨hB3.step f4.below,?_⟩;rw [az];intro h;have h1:=h.each e (ZF he);have:=h1.o1;have:=h1.o2;simp at hbad2;omega
  refine ag ?_;refine aC (k+1) ⟨by omega,hB3.step f4.below,hblk3.next f4.below,fun i e' hi he'=> ?_⟩;rcases ZI i k with h|h
  ·exact heach i e' h he'
  ·obtain rfl:i=k:=by omega
   rw [he] at he'; cases he';simp at hgood2;exact ⟨by omega,by omega⟩
 ·have hok:WfE d l:=⟨hwd,hfew,fun e he=>by
   obtain ⟨i,hi,he'⟩:=List.getElem_of_mem he;exact heach i e (by omega) (by rw [ZD hi,he'])⟩
  refine ag ?_;refine aj rfl (hblk3.cell 0) ?_;refine ag ?_;refine bI rfl rfl (dH rG I6 rfl) rfl rfl (by omega) (by omega) ?_;rintro g5 w5 f5;refine il rfl Kn rfl is134.q rfl ?_;rintro g6 w6 f6;refine ag ?_;refine aN rfl rfl (aa rfl ct (aa rfl ct ah)) ?_;refine ag ?_;have hB6:=(hB3.step f5.below).step f6.below;refine lM (fun _:Unit=> [(43,none,.int .i64 ((0:Nat):Int)),(44,none,.int .i64 0)])
   (fun _ W'=>W'=w6) (fun k=>0) () [43,44] rfl rfl ?_
  rintro _ W' rfl;refine ag ?_;refine aI [43,44,45] rfl ?_;refine ai rfl (fun hlt2=> ?_) (fun hge2=> ?_)
  ·exfalso;omega
  ·refine ag ?_;refine aW rfl ⟨hB6,by rw [ay hok]⟩
theorem xm:Gives prog 313 #[.agg #[.int .i64 e.office,.int .i64 e.low,.int .i64 e.high,.slice A n c]] w fun x w'=>Below w.heap.size w w'/\x= .tuple #[.int .i64 (dF e),.int .i64 (bM e)]:=by
 refine gv (f:=313) ?_;refine ag ?_;refine aG rfl rfl rfl rfl ?_;rintro g w1 f1;refine ag ?_;refine bg mixed (by kernel_rfl) ?_;refine aZ ?_;refine aB rfl (f1.blk.fld rfl) ?_;refine bL nA rfl ⟨ct,ct,trivial⟩ (fun _=>trivial) ?_;refine bL kD rfl ⟨ct,ct,trivial⟩ (fun _=>trivial) ?_;refine aZ ?_;refine aB rfl (f1.blk.fld rfl) ?_;refine bL kD rfl ⟨ct,ct,trivial⟩ (fun _=>trivial) ?_;refine bL nA rfl ⟨ct,ct,trivial⟩ (fun _=>trivial) ?_;refine aZ ?_;refine bR [0,1,2,3] rfl fun w2 hb2=> ?_;refine ag ?_;refine jH rfl ⟨f1.below.step hb2,rfl⟩
theorem GU:nE prog "postilion/order.window" 218 316:=fun _ _ _=>by kernel_rfl
theorem Lm:nE prog "postilion/order.ends" 218 314:=fun _ _ _=>by kernel_rfl
theorem Ll:nE prog "postilion/order.span" 218 315:=fun _ _ _=>by kernel_rfl
theorem JG:nE prog "postilion/order.write" 218 317:=fun _ _ _=>by kernel_rfl
theorem ES {i:Int}:Gives prog 316 #[.agg #[.int .i64 i,.int .i64 e.office,.int .i64 e.low,.int .i64 e.high,.slice A n c]] w fun x w'=>Below w.heap.size w w'/\x= .tuple #[.int .i64 (dF e),.int .i64 (bM e)]:=by
 refine gv (f:=316) ?_;refine ag ?_;refine aG rfl rfl rfl rfl ?_;rintro g w1 f1;refine ag ?_;refine aF rfl (f1.blk.sub 1 [.int .i64 e.office,.int .i64 e.low,.int .i64 e.high,.slice A n c] rfl) ?_;refine aA rfl (xm) ?_;rintro v2 w2 ⟨hb2,rfl⟩;refine ag ?_;refine jH rfl ⟨f1.below.step hb2,rfl⟩
theorem Me {i:Int}:Gives prog 314 #[.agg #[.int .i64 i,.int .i64 e.office,.int .i64 e.low,.int .i64 e.high,.slice A n c]] w fun x w'=>Below w.heap.size w w'/\x= .tuple #[.int .i64 e.office,.int .i64 e.office]:=by
 refine gv (f:=314) ?_;refine ag ?_;refine aG rfl rfl rfl rfl ?_;rintro g w1 f1;refine ag ?_;refine bg mixed (by kernel_rfl) ?_;refine aZ ?_;have hc:w1.cell? ((Addr.add ⟨g,0,none⟩ 1).add 0)=some (.int .i64 e.office):=by rw [Addr.add_add]; exact f1.blk.fld rfl
 refine aB rfl hc ?_;refine aZ ?_;refine aB rfl hc ?_;refine aZ ?_;refine bR [0,1,2,3] rfl fun w2 hb2=> ?_;refine ag ?_;refine jH rfl ⟨f1.below.step hb2,rfl⟩
theorem K5 {i:Int}:Gives prog 315 #[.agg #[.int .i64 i,.int .i64 e.office,.int .i64 e.low,.int .i64 e.high,.slice A n c]] w fun x w'=>Below w.heap.size w w'/\x= .int .i64 0:=by
 refine gv (f:=315) ?_;refine ag ?_;refine aG rfl rfl rfl rfl ?_;rintro g w1 f1;refine ag ?_;refine aW rfl ⟨f1.below,rfl⟩
def jG (w:World) (g:Nat) (n:Nat):Prop:= ∃xs:List Int,xs.length=n/\Blk w g 3 (xs.map (Value.int .i64))
theorem I7 {t:Int} (him:i<m) (hm:m<=16) (ht:jG w g m):Gives prog 317 #[.agg #[.int .i64 (i:Int),.int .i64 e.office,.int .i64 e.low,.int .i64 e.high,.slice A n c],.slice (some ⟨g,0,none⟩) m m,.int .i64 t] w fun _ w'=>But g w w'/\jG w' g m:=by
 obtain ⟨xs,hxl,hB⟩:=ht;refine gv (f:=317) ?_;refine ag ?_;refine aG rfl rfl rfl rfl ?_;rintro g1 w1 f1;refine ag ?_;refine aj rfl (f1.blk.fld rfl) ?_;refine ag ?_;have hB1:=hB.next f1.below;refine bi rfl is3.q rfl rfl hB1 (by simp; omega) rfl ?_;rintro w2 hB2 hbut hsz;refine ag ?_;refine ul results317 ⟨(But.of_below f1.below).trans hbut,xs.set i t,by simp [hxl],by simpa [List.map_set] using hB2⟩
def UV (m:Nat) (v:Value) (u:U):Prop:= ∃t x kw ke ks kr,v= .iface t x/\nE prog "postilion/order.window" t kw/\nE prog "postilion/order.ends" t ke/\nE prog "postilion/order.span" t ks/\nE prog "postilion/order.write" t kr /\
 (∀w,Gives prog kw #[x] w fun y w'=>Below w.heap.size w w'/\y= .tuple #[.int .i64 u.low,.int .i64 u.high]) /\
 (∀w,Gives prog ke #[x] w fun y w'=>Below w.heap.size w w'/\y= .tuple #[.int .i64 (u.entry:Int),.int .i64 (u.exit:Int)]) /\
 (∀w,Gives prog ks #[x] w fun y w'=>Below w.heap.size w w'/\y= .int .i64 u.span) /\
 (∀w g b,-1<=b->b<=3000000->jG w g m->Gives prog kr #[x,.slice (some ⟨g,0,none⟩) m m,.int .i64 b] w fun _ w'=>But g w w'/\jG w' g m)
def MH (m:Nat):Ty U where
 n:=1
 rep:=fun _ _ cs u=> ∃v,cs= [v]/\UV m v u
 len:=fun _ _ _ _ h=>by obtain ⟨v,h,_⟩:=h; rw [h]; rfl
 mono:=fun _ _ _ _ _ _ h=>h
 wider:=fun _ _ _ _ _ _ h=>h
theorem uW (him:i<m) (hm:m<=16) (h0:0<=e.office):UV m (.iface 218 (.agg #[.int .i64 (i:Int),.int .i64 e.office,.int .i64 e.low,.int .i64 e.high,.slice A n c])) (gZ e):=by
 refine ⟨_,_,_,_,_,_,rfl,GU,Lm,Ll,JG,fun w=>ES,fun w=> ?_,fun w=>K5,fun w g b _ _ ht=>I7 him hm ht⟩;have h1:((e.office.toNat:Nat):Int)=e.office:=by omega
 have:=Me (w:=w) (i:=(i:Int)) (e:=e) (A:=A) (n:=n) (c:=c);show Gives _ _ _ _ fun y w'=>_/\y= .tuple #[.int .i64 ((e.office.toNat:Nat):Int),.int .i64 ((e.office.toNat:Nat):Int)];rw [h1];exact this
def Py:Ty Nat where
 n:=1
 rep:=fun _ _ cs x=>cs= [.int .u32 (x:Int)]/\x<2 ^ 32
 len:=fun _ _ _ _ h=>by rw [h.1]; rfl
 mono:=fun _ _ _ _ _ _ h=>h
 wider:=fun _ _ _ _ _ _ h=>h
structure Srch (w:World) (g m:Nat) (d:bA) (us:List U) (dv uv fv:Value):Prop where
 blk:Blk w g 152 [dv,uv,fv]
 dist:SL (sliceT bC) (fun k=>k<g) w dv d
 units:SL (MH m) (fun k=>k<g) w uv us
theorem Srch.step {w':World} (h:Srch w g m d us dv uv fv) (hb:Below w.heap.size w w'):Srch w' g m d us dv uv fv :=
 ⟨h.blk.next hb,h.dist.below hb,h.units.below hb⟩
theorem jS {F:Nat->Prop} {ad:Addr} {cap:Nat} (h:SL (MH m) F w (.slice (some ad) n cap) us) (hu:us[i]?=some u): ∃v,w.cell? (ad.add ((i:Int).toNat*1))=some v/\UV m v u:=by
 obtain ⟨ad',cs,h1,_,⟨v,rfl,hv⟩,hc⟩:=h.at hu;cases h1;refine ⟨v,?_,hv⟩;have:=hc 0 v rfl;rw [Addr.add_add,Nat.add_zero] at this;exact this
def eU:Option Nat->Int
 | none=> -1
 | some x=>x
noncomputable def eQ (d:bA) (s:St) (u:U):Int:=if dec (gK d s u) then kW d s u else -1
structure Num (d:bA) (u:U):Prop where
 ok:UOK d u
 low:0<=u.low/\u.low<=1000001
 high: -1<=u.high/\u.high<=1000000
 span:0<=u.span/\u.span<=1000000
theorem jK (hwd:WfD d) (hS:Srch w g m d us dv uv fv) (hu:us[i]?=some u) (hn:Num d u) (hs:qT d s) (ht: -1<=s.2/\s.2<=3000000) :
  Gives prog 88 #[.pointer (some ⟨g,0,none⟩),.agg #[.int .u32 (k:Int),.int .i64 (eU s.1)],.int .i64 s.2,.int .i64 (i:Int)] w fun x w'=>Below w.heap.size w w'/\x= .int .i64 (eQ d s u):=by
 obtain ⟨U1,ucap,rfl,_⟩:=hS.units.form;obtain ⟨D1,dcap,rfl,_⟩:=hS.dist.form;have hil:i<us.length:=(ZE hu).1;obtain ⟨ua,rfl⟩:=hS.units.addr (by omega);refine gv (f:=88) ?_;refine ag ?_;refine aG rfl rfl rfl rfl ?_;rintro g1 w1 f1;refine ag ?_;refine aT bO rfl ⟨ct,trivial⟩ (fun _=>trivial) ?_;refine ag ?_;have hS1:=hS.step f1.below;obtain ⟨v1,hc1,hv1⟩:=jS hS1.units hu;obtain ⟨t,x,kw,ke,ks,kr,rfl,mw,me,ms,mr,cw,ce,cs,cr⟩:=hv1;refine aj rfl (hS1.blk.fld rfl) ?_;refine ag ?_;refine aj rfl hc1 ?_;refine dG rfl rfl (mw) rfl ah (cw _) ?_;rintro y2 w2 ⟨hb2,rfl⟩;refine ag ?_;refine aT bO rfl ⟨ct,trivial⟩ (fun _=>trivial) ?_;refine ag ?_;have hS2:=hS1.step hb2;obtain ⟨v2,hc2,hv2⟩:=jS hS2.units hu;obtain ⟨t',x',kw',ke',ks',kr',rfl,mw',me',ms',mr',cw',ce',cs',cr'⟩:=hv2;refine aj rfl (hS2.blk.fld rfl) ?_;refine ag ?_;refine aj rfl hc2 ?_;refine dG rfl rfl (me') rfl ah (ce' _) ?_;rintro y3 w3 ⟨hb3,rfl⟩;refine ag ?_;have hS3:=hS2.step hb3;have hB3:=(f1.blk.next hb2).next hb3;have hBel:=(f1.below.step hb2).step hb3;have q1:=hn.low;have q2:=hn.high;refine aj rfl (hB3.fld rfl) ?_;refine ag ?_;refine aI [0,1,2,3,5,8,9,10,11,13,38] rfl ?_;obtain ⟨o,T⟩:=s
 cases o with
 | none =>
  refine ai rfl (fun hne=> ?_) (fun heq=> ?_)
  ·exact absurd rfl hne
  refine ag ?_;refine au rfl (fun hbad=> ?_) (fun hgood=> ?_)
  ·refine ag ?_;refine aW rfl ⟨hBel,?_⟩;rw [eQ,az]
   ·rfl
   ·rintro ⟨h1,h2⟩;simp only [far] at h1 h2;simp at hbad;omega
  refine ag ?_;refine aT nA rfl ⟨ct,ct,trivial⟩ (fun _=>trivial) ?_;refine ag ?_;refine aW rfl ⟨hBel,?_⟩;rw [eQ,ay]
  ·rfl
  ·simp at hgood
   exact ⟨by simp [far],by simp only [far]; omega⟩
 | some y =>
  have hy:y<d.length:=hs y rfl;obtain ⟨da,rfl⟩:=hS.dist.addr (by omega);obtain ⟨rw1,hr⟩: ∃r,d[y]?=some r:=⟨d[y],ZD hy⟩;obtain ⟨rv,hcell,hrow⟩:=hS3.dist.row hr;obtain ⟨R1,rcap,rfl,_⟩:=hrow.form;have hrl:rw1.length=d.length:=hwd.row y rw1 hr;have he:=hn.ok.e1;obtain ⟨ra,rfl⟩:=hrow.addr (by omega);obtain ⟨z,hz⟩: ∃z,rw1[u.entry]?=some z:=⟨rw1[u.entry]'(by omega),ZD (by omega)⟩;have hza:=gH hr hz;have hzr:=hwd.rng y u.entry hy he;rw [hza] at hzr;refine ai rfl (fun hne=> ?_) (fun heq=> ?_)
  ·refine bg mixed (by kernel_rfl) ?_;refine aZ ?_;refine bL bO rfl ⟨ct,trivial⟩ (fun _=>trivial) ?_;refine aZ ?_;refine aB rfl (hS3.blk.fld rfl) ?_;refine aZ ?_;refine aB rfl (hB3.fld rfl) ?_;refine bL dW rfl ⟨ct,ct,trivial⟩ (fun _=>by simp only [eU]; omega) ?_;refine aB rfl hcell ?_;refine aZ ?_;refine aB rfl (hrow.getI hz) ?_;refine aZ ?_;refine bR [0,1,2,3,5,8,9,10,11,13] rfl fun w4 hb4=> ?_;refine ag ?_;refine aI [0,1,2,3,5,8,9,10,11,13,58] rfl ?_;refine au rfl (fun hbad=> ?_) (fun hgood=> ?_)
   ·refine ag ?_;refine aW rfl ⟨hBel.step hb4,?_⟩;rw [eQ,az]
    ·rfl
    ·rintro ⟨h1,h2⟩;simp only [far,hza] at h1 h2;simp at hbad;omega
   refine ag ?_;refine aT nA rfl ⟨ct,ct,trivial⟩ (fun _=>trivial) ?_;refine ag ?_;refine aW rfl ⟨hBel.step hb4,?_⟩;rw [eQ,ay]
   ·simp only [kW,far,hza,if_true]
   ·simp at hgood;exact ⟨by simp only [far,hza]; omega,by simp only [far,hza]; omega⟩
  ·exfalso;exact heq (by simp only [eU]; omega)
theorem nU {o:Int} (hS:Srch w g m d us dv uv fv) (hu:us[i]?=some u) (hk:k<2 ^ 32) (hi:i<32) :
  Gives prog 89 #[.pointer (some ⟨g,0,none⟩),.agg #[.int .u32 (k:Int),.int .i64 o],.int .i64 (i:Int)] w fun x w'=>Below w.heap.size w w'/\x= .agg #[.int .u32 ((k ||| 1 <<< i:Nat):Int),.int .i64 (u.exit:Int)]:=by
 obtain ⟨U1,ucap,rfl,_⟩:=hS.units.form;have hil:i<us.length:=(ZE hu).1;obtain ⟨ua,rfl⟩:=hS.units.addr (by omega);refine gv (f:=89) ?_;refine ag ?_;refine aG rfl rfl rfl rfl ?_;rintro g1 w1 f1;refine dC rfl rfl mF ?_;rintro g2 w2 f2;refine ag ?_;refine aT bO rfl ⟨ct,trivial⟩ (fun _=>trivial) ?_;refine ag ?_;have hS2:=(hS.step f1.below).step f2.below;obtain ⟨v1,hc1,hv1⟩:=jS hS2.units hu;obtain ⟨t,x,kw,ke,ks,kr,rfl,mw,me,ms,mr,cw,ce,cs,cr⟩:=hv1;refine aj rfl (hS2.blk.fld rfl) ?_;refine ag ?_;refine aj rfl hc1 ?_;refine dG rfl rfl (me) rfl ah (ce _) ?_;rintro y3 w3 ⟨hb3,rfl⟩;refine ag ?_;refine dE mixed fun W4 hb4=> ?_;refine dL .weak 7 (by kernel_rfl) (by kernel_rfl) rfl rfl hb4 ?_;refine aZ ?_;have hB1:=(f1.blk.next f2.below).next hb3;have hp:(1 <<< i:Nat)<2 ^ 32:=by rw [Nat.one_shiftLeft]; exact Nat.pow_lt_pow_right (by decide) hi
 refine aB rfl (hB1.fld rfl) ?_;refine bL aX rfl ⟨ct,trivial⟩ (fun _=>trivial) ?_;refine bL qd rfl ⟨ct,ct,trivial⟩ (fun _=>hi) ?_;refine bL BK rfl ⟨ct,ct,trivial⟩ (fun _=>⟨hk,hp⟩) ?_;refine aZ ?_;refine jA [0,1] [.tmp 24,.tmp 25] [.int .u32 ((k ||| 1 <<< i:Nat):Int),.int .i64 (u.exit:Int)] rfl rfl rfl rfl (ax rfl ct (ax rfl ct aP)) (by kernel_rfl) ?_;refine dD (iv [0,1,2,4,6,8,26] [(0,_,_),(1,_,_),(2,_,_),(4,_,_),(6,_,_),(8,_,_),(26,_,_)] rfl (fun w5 hb5=>ek ?_));refine bV (by kernel_rfl) (by kernel_rfl) rfl ?_;have hB5:=(f2.blk.next hb3).next hb5;refine aQ rfl rfl rfl hB5 is156.q rfl rfl rfl ?_;rintro w6 hB6 hg6 hsz6;refine bG (aS [0,1,2,4,6,8] [(0,_,_),(1,_,_),(2,_,_),(4,_,_),(6,_,_),(8,_,_)] rfl (dJ ?_));refine ed rfl (aS [0,1,2,4,6,8] [(0,_,_),(1,_,_),(2,_,_),(4,_,_),(6,_,_),(8,_,_)] rfl (aD ?_));refine pg ?_;refine ow results89 underlying156 (by exact is156.q) rfl (hB6) (⟨?_,rfl⟩);have q0:=f1.below.step f2.below;have q1:=(q0.step hb3).step hb5;refine q1.trans ⟨hg6.os,hg6.tape,hg6.output,hg6.size,fun k hk=>hg6.block k ?_ ?_⟩
 ·have:=q1.size; omega
 ·intro h;have:=f2.at_;have:=f1.below.size;simp only [Option.some.injEq] at h;omega
theorem iE (hn:Num d u):(0<=eQ d s u)↔gK d s u:=by
 unfold eQ;constructor
 ·intro h
  cases hd:dec (gK d s u) with
  | true=>exact dec_iff.1 hd
  | false=>rw [hd] at h; simp at h
 ·intro h;rw [ay h,if_pos rfl];have:=hn.low;unfold kW;omega
theorem lG (hn:Num d u): -1<=eQ d s u/\eQ d s u<=1000001:=by
 unfold eQ;have h1:=hn.low;have h2:=hn.high
 cases hd:dec (gK d s u) with
 | true =>
  have h:=dec_iff.1 hd;have:=h.2;rw [if_pos rfl];unfold kW
  omega
 | false=>simp
theorem Hw {j:Nat} {v:U} (hwd:WfD d) (hS:Srch w g m d us dv uv fv) (hu:us[i]?=some u) (hv:us[j]?=some v) (hn:Num d u) (hn':Num d v) :
  Gives prog 160 #[.pointer (some ⟨g,0,none⟩),.int .i64 (i:Int),.int .i64 (j:Int)] w fun x w'=>Below w.heap.size w w'/\x= .bool (dec (Fits d u v)):=by
 obtain ⟨U1,ucap,rfl,_⟩:=hS.units.form;have hil:i<us.length:=(ZE hu).1;obtain ⟨ua,rfl⟩:=hS.units.addr (by omega);have q1:=hn.low;have q2:=hn.span;obtain ⟨v1,hc1,hv1⟩:=jS hS.units hu;obtain ⟨t,x,kw,ke,ks,kr,rfl,mw,me,ms,mr,cw,ce,cs,cr⟩:=hv1;refine gv (f:=160) ?_;refine ag ?_;refine aT bO rfl ⟨ct,trivial⟩ (fun _=>trivial) ?_;refine ag ?_;refine aj rfl (hS.blk.fld rfl) ?_;refine ag ?_;refine aj rfl hc1 ?_;refine dG rfl rfl (mw) rfl ah (cw _) ?_;rintro y1 w1 ⟨hb1,rfl⟩;refine ag ?_;refine aT bO rfl ⟨ct,trivial⟩ (fun _=>trivial) ?_;refine ag ?_;have hS1:=hS.step hb1;have hc1':=(hb1.cell (block_lt_of_cell hc1)).trans hc1;refine aj rfl (hS1.blk.fld rfl) ?_;refine ag ?_;refine aj rfl (hc1') ?_;refine dG rfl rfl (me) rfl ah (ce _) ?_;rintro y2 w2 ⟨hb2,rfl⟩;refine ag ?_;have hS2:=hS1.step hb2;have hc2':=(hb2.cell (block_lt_of_cell hc1')).trans hc1';refine aH [1] [.tmp 34] [.int .u32 ((0:Nat):Int),.int .i64 (u.exit:Int)] rfl rfl rfl (aa rfl ct ah) (by kernel_rfl) ?_;refine ag ?_;refine aT bO rfl ⟨ct,trivial⟩ (fun _=>trivial) ?_;refine ag ?_;refine aj rfl (hS2.blk.fld rfl) ?_;refine ag ?_;refine aj rfl (hc2') ?_;refine dG rfl rfl (ms) rfl ah (cs _) ?_;rintro y3 w3 ⟨hb3,rfl⟩;refine ag ?_
 have hso:qT d (some u.exit,u.low+u.span):=fun y hy=>by
  cases hy;exact hn.ok.e2
 refine aA rfl (jK (s:=(some u.exit,u.low+u.span)) hwd (hS2.step hb3) hv hn' hso ⟨show -1<=u.low+u.span by omega,show u.low+u.span<=3000000 by omega⟩) ?_;rintro y4 w4 ⟨hb4,rfl⟩;refine ag ?_;refine aW rfl ⟨((hb1.step hb2).step hb3).step hb4,?_⟩;rw [<-uT,fJ (iE hn')];rfl
theorem LZ (hwd:WfD d) (hS:Srch w g m d us dv uv fv) (hu:us[i]?=some u) (hn:Num d u) (hs:qT d s) (ht:0<=s.2/\s.2<=3000000) :
  Gives prog 225 #[.pointer (some ⟨g,0,none⟩),.agg #[.int .u32 (k:Int),.int .i64 (eU s.1)],.int .i64 s.2,.int .i64 (i:Int)] w fun x w'=>Below w.heap.size w w'/\x= .bool (dec (zM d s u)):=by
 obtain ⟨U1,ucap,rfl,_⟩:=hS.units.form;have hil:i<us.length:=(ZE hu).1;obtain ⟨ua,rfl⟩:=hS.units.addr (by omega);obtain ⟨v1,hc1,hv1⟩:=jS hS.units hu;obtain ⟨t,x,kw,ke,ks,kr,rfl,mw,me,ms,mr,cw,ce,cs,cr⟩:=hv1;refine gv (f:=225) ?_;refine ag ?_;refine aG rfl rfl rfl rfl ?_;rintro g1 w1 f1;refine ag ?_;refine aT bO rfl ⟨ct,trivial⟩ (fun _=>trivial) ?_;refine ag ?_;have hS1:=hS.step f1.below;have hc1':=(f1.below.cell (block_lt_of_cell hc1)).trans hc1;refine aj rfl (hS1.blk.fld rfl) ?_;refine ag ?_;refine aj rfl (hc1') ?_;refine dG rfl rfl (me) rfl ah (ce _) ?_;rintro y2 w2 ⟨hb2,rfl⟩;refine ag ?_;have hS2:=hS1.step hb2;have hc2:=(hb2.cell (block_lt_of_cell hc1')).trans hc1';have hB2:=f1.blk.next hb2;refine aj rfl (hB2.fld rfl) ?_;refine ag ?_;refine aj rfl (hB2.fld rfl) ?_;refine ag ?_;refine aT bO rfl ⟨id,trivial⟩ (fun _=>trivial) ?_;refine ag ?_;refine aj rfl (hS2.blk.fld rfl) ?_;refine ag ?_;refine aj rfl hc2 ?_;refine BN rfl rfl (ms) rfl id ah (fun _=>cs _) ?_;rintro w3 hb3;refine ag ?_;have hB3:=hB2.next hb3;refine aF rfl (fun _ _ h=>hB3.fld h) ?_;refine ag ?_
 refine aO (cap:= []) rfl rfl ie88.q rfl ct (aa rfl id (aa rfl id (aa rfl id (aa rfl id ah)))) (fun _=>jK (k:=k) hwd (hS2.step hb3) hu hn hs ⟨by omega,ht.2⟩) ?_;rintro w4 hb4;refine ag ?_;refine aW rfl ⟨((f1.below.step hb2).step hb3).step hb4,?_⟩;rw [show dec (zM d s u)=(decide ((u.entry:Int)=eU s.1)&&decide ((u.exit:Int)=eU s.1)&&decide (u.span=0)&&decide (eQ d s u=s.2)) from ?_]
 cases hf:(decide ((u.entry:Int)=eU s.1)&&decide ((u.exit:Int)=eU s.1)&&decide (u.span=0)&&decide (eQ d s u=s.2)) with
 | true =>
  simp only [Bool.and_eq_true,decide_eq_true_eq] at hf;obtain ⟨⟨⟨h1,h2⟩,h3⟩,h4⟩:=hf;have hcan:gK d s u:=(iE hn).1 (by omega);refine ay ⟨?_,?_,h3,hcan,?_⟩
  ·cases ho:s.1 with
   | none=>rw [ho] at h1; simp only [eU] at h1; omega
   | some y=>rw [ho] at h1; simp only [eU] at h1; congr 1; omega
  ·omega
  ·unfold eQ at h4
   rwa [ay hcan,if_pos rfl] at h4
 | false =>
  refine az fun ⟨h1,h2,h3,h4,h5⟩=> ?_;have hb:eQ d s u=s.2:=by unfold eQ; rw [ay h4,if_pos rfl,h5]
  rw [h1] at hf;simp [eU,h2,h3,hb] at hf
structure SrchF (w:World) (g m:Nat) (d:bA) (us:List U) (dv uv:Value) (gf:Nat) (F:List Nat):Prop where
 s:Srch w g m d us dv uv (.slice (some ⟨gf,0,none⟩) F.length F.length)
 len:F.length=us.length
 fst:Blk w gf 154 (F.map fun x:Nat=>Value.int .u32 (x:Int))
 small: ∀x∈F,x<2 ^ 32
theorem SrchF.step {w w':World} {g m:Nat} {d:bA} {us:List U} {dv uv:Value} {gf:Nat} {F:List Nat} (h:SrchF w g m d us dv uv gf F) (hb:Below w.heap.size w w'):SrchF w' g m d us dv uv gf F :=
 ⟨h.s.step hb,h.len,h.fst.next hb,h.small⟩
theorem lC {w':World} (h:But k w w') (hk:g<=k):Kept (fun b=>b<g) w w':=bn fun b hb hlt=>h.block b hlt (fun e=>by cases e; omega)
def MaskOK (d:bA) (us:List U) (F:List Nat) (P:Nat->Nat->Prop):Prop:= ∀(a:Nat) (u:U),us[a]?=some u-> ∀b,((F.getD a 0).testBit b=true↔P a b/\a≠b/\ ∃v,us[b]?=some v/\ ¬Fits d u v)
theorem MaskOK.congr {F:List Nat} {P P':Nat->Nat->Prop} (h:MaskOK d us F P) (hp: ∀(a b:Nat) (u v:U),us[a]?=some u->us[b]?=some v->a≠b-> ¬Fits d u v->(P a b↔P' a b)):MaskOK d us F P':=by
 intro a u hu b;rw [h a u hu b];constructor
 ·rintro ⟨h1,h2,v,h3,h4⟩;exact ⟨(hp a b u v hu h3 h2 h4).1 h1,h2,v,h3,h4⟩
 ·rintro ⟨h1,h2,v,h3,h4⟩;exact ⟨(hp a b u v hu h3 h2 h4).2 h1,h2,v,h3,h4⟩
theorem MaskOK.set {d:bA} {us:List U} {F:List Nat} {P:Nat->Nat->Prop} (h:MaskOK d us F P) (hl:F.length=us.length) {x y:Nat} {u v:U} (hx:us[x]?=some u) (hy:us[y]?=some v) (hxy:x≠y) (hf: ¬Fits d u v) :
  MaskOK d us (F.set x (F.getD x 0 ||| 1 <<< y)) fun a b=>P a b∨(a=x/\b=y):=by
 intro a u' hu b;have hxl:x<F.length:=by rw [hl]; exact (ZE hx).1
 by_cases hax:a=x
 ·subst hax;rw [hx] at hu; cases hu;have e:(F.set a (F.getD a 0 ||| 1 <<< y)).getD a 0=F.getD a 0 ||| 1 <<< y:=by simp [List.getD_eq_getElem?_getD,hxl]
  rw [e,Nat.testBit_or,Nat.one_shiftLeft,Nat.testBit_two_pow,Bool.or_eq_true,h a u hx b,decide_eq_true_eq];constructor
  ·rintro (⟨h1,h2,h3⟩|rfl)
   ·exact ⟨.inl h1,h2,h3⟩
   ·exact ⟨.inr ⟨rfl,rfl⟩,hxy,v,hy,hf⟩
  ·rintro ⟨h1|⟨_,rfl⟩,h2,h3⟩
   ·exact .inl ⟨h1,h2,h3⟩
   ·exact .inr rfl
 ·have e:(F.set x (F.getD x 0 ||| 1 <<< y)).getD a 0=F.getD a 0:=by simp [List.getD_eq_getElem?_getD,List.getElem?_set_ne (Ne.symm hax)]
  rw [e,h a u' hu b];constructor
  ·rintro ⟨h1,h2⟩; exact ⟨.inl h1,h2⟩
  ·rintro ⟨h1|⟨h1,_⟩,h2⟩
   ·exact ⟨h1,h2⟩
   ·exact absurd h1 hax
def Seen (j i:Nat) (a b:Nat):Prop:=(a<j/\b<j)∨(b=j/\a<i)∨(a=j/\b<i)
theorem vw (hwd:WfD d) (hS:Srch w g m d us dv uv fv) (hn: ∀u∈us,Num d u) (h16:us.length<=16) :
  Gives prog 85 #[.pointer (some ⟨g,0,none⟩)] w fun x w'=>But g w w'/\((x= .bool false/\ ∃(i j:Nat) (u v:U),us[i]?=some u/\us[j]?=some v/\i≠j/\ ¬Fits d u v/\ ¬Fits d v u)∨(x= .bool true/\ ∃gf F,SrchF w' g m d us dv uv gf F/\sK d us (fun i=>F.getD i 0)/\ ∀i j,i<us.length->(F.getD i 0).testBit j=true->j<us.length)):=by
 obtain ⟨U1,ucap,rfl,_⟩:=hS.units.form;refine gv (f:=85) ?_;refine ag ?_;refine aT bO rfl ⟨ct,trivial⟩ (fun _=>trivial) ?_;refine ag ?_;refine aj rfl (hS.blk.fld rfl) ?_;refine ag ?_;refine bI rfl rfl (dH Nt MP rfl) rfl rfl (by omega) (by omega) ?_;rintro g1 w1 f1;refine aT bO rfl ⟨ct,trivial⟩ (fun _=>trivial) ?_;refine ag ?_;have hB1:=hS.blk.next f1.below;refine bi rfl is150.q rfl rfl hB1 (by show 2<3; decide) rfl ?_;rintro w2 hB2 hbut2 hsz2;refine ag ?_;refine aT bO rfl ⟨ct,trivial⟩ (fun _=>trivial) ?_;refine ag ?_;have hgf:g≠g1:=fun e=>by have:=f1.at_; have:=hS.blk.lt; omega
 have hBut:But g w w2:=(But.of_below f1.below).trans hbut2;have hgw:w.heap.size<=g1:=Nat.le_of_eq f1.at_.symm;have hglt:=hS.blk.lt;have hSF:SrchF w2 g m d us dv (.slice U1 us.length ucap) g1 (List.replicate us.length 0):=by
  refine ⟨⟨?_,(hS.dist.below f1.below).mono (lC hbut2 ZC),(hS.units.below f1.below).mono (lC hbut2 ZC)⟩,by simp,?_,fun x hx=>by rw [List.eq_of_mem_replicate hx]; decide⟩
  ·simpa using hB2
  ·have:=hbut2.blk f1.blk (Ne.symm hgf);simpa using this
 have hM:MaskOK d us (List.replicate us.length 0) (Seen 0 0):=by
  intro a u hu b;have hal:=(ZE hu).1;have e:(List.replicate us.length 0).getD a 0=0:=by simp [List.getD_eq_getElem?_getD,List.getElem?_replicate,hal]
  rw [e,Nat.zero_testBit];constructor
  ·intro h;cases h
  ·rintro ⟨h,_⟩;unfold Seen at h;omega
 refine aj rfl (hSF.s.blk.fld rfl) ?_;refine ag ?_;refine aI [0,2,20,21] rfl ?_;refine aJ [0,20] (fun jF:Nat×List Nat=> [(21,none,.int .i64 (jF.1:Int))])
  (fun jF W=>jF.1<=us.length/\But g w W/\SrchF W g m d us dv (.slice U1 us.length ucap) g1 jF.2/\MaskOK d us jF.2 (Seen jF.1 0)) (fun jF=>us.length-jF.1) (0,List.replicate us.length 0) ⟨ZB,hBut,hSF,hM⟩ ?_
 rintro ⟨j,F⟩ W ⟨hj,hBW,hFW,hMW⟩;dsimp only at hj hBW hFW hMW;refine ag ?_;refine ai rfl (fun hlt=> ?_) (fun hge=> ?_)
 ·have hjl:j<us.length:=by omega
  obtain ⟨v,hv⟩: ∃v,us[j]?=some v:=⟨us[j],ZD hjl⟩;refine ag ?_;refine aJ [0,3,20,21,24] (fun iF:Nat×List Nat=> [(25,none,.int .i64 (iF.1:Int))])
   (fun iF W=>iF.1<=j/\But g w W/\SrchF W g m d us dv (.slice U1 us.length ucap) g1 iF.2/\MaskOK d us iF.2 (Seen j iF.1)) (fun iF=>j-iF.1) (0,F) ⟨ZB,hBW,hFW,hMW⟩ ?_
  rintro ⟨i,F'⟩ W' ⟨hi,hBW',hFW',hMW'⟩;dsimp only at hi hBW' hFW' hMW';refine ag ?_;refine ai rfl (fun hlt2=> ?_) (fun hge2=> ?_)
  ·have hil:i<j:=by omega
   obtain ⟨u,hu⟩: ∃u,us[i]?=some u:=⟨us[i]'(by omega),ZD (by omega)⟩;have nu:=hn u (ZF hu);have nv:=hn v (ZF hv);refine ag ?_;refine aA rfl (Hw hwd hFW'.s hu hv nu nv) ?_;rintro y3 w3 ⟨hb3,rfl⟩;refine ag ?_;refine aA rfl (Hw hwd (hFW'.s.step hb3) hv hu nv nu) ?_;rintro y4 w4 ⟨hb4,rfl⟩;have hF4:=(hFW'.step hb3).step hb4;have hB4:=(hBW'.step hb3).step hb4;refine ag ?_;refine aI [0,3,4,5,6,20,21,24,25,36] rfl ?_;refine au rfl (fun hnone=> ?_) (fun hsome=> ?_)
   ·refine ag ?_;refine aW rfl ⟨hB4,.inl ⟨rfl,i,j,u,v,hu,hv,by omega,?_,?_⟩⟩
    ·intro h;simp [ay h] at hnone
    ·intro h;simp [ay h] at hnone
   refine ag ?_;refine au rfl (fun hnf=> ?_) (fun hf=> ?_)
   ·skip
    have hnf1: ¬Fits d u v:=fun h=>by simp [ay h] at hnf
    have hbk:Fits d v u:=by
     cases hq:dec (Fits d v u) with
     | true=>exact dec_iff.1 hq
     | false=>simp [hq,az hnf1] at hsome
    have hxl:i<F'.length:=by rw [hF4.len]; omega
    have hcF:w4.cell? (Addr.add ⟨g1,0,none⟩ ((i:Int).toNat*1))=some (.int .u32 ((F'.getD i 0:Nat):Int)):=hF4.fst.fld (by simp [List.getD_eq_getElem?_getD,hxl]);have hsm:F'.getD i 0<2 ^ 32:=hF4.small _ (by rw [List.getD_eq_getElem?_getD,ZD hxl]; exact List.getElem_mem hxl);have hp:(1 <<< j:Nat)<2 ^ 32:=by rw [Nat.one_shiftLeft]; exact Nat.pow_lt_pow_right (by decide) (by omega)
    refine dE mixed fun W5 hb5=> ?_;refine dL .weak 11 (by kernel_rfl) (by kernel_rfl) rfl rfl hb5 ?_;refine aZ ?_;refine bL bO rfl ⟨ct,trivial⟩ (fun _=>trivial) ?_;refine aZ ?_;refine aB rfl (hF4.s.blk.fld rfl) ?_;refine aZ ?_;refine aB rfl hcF ?_;refine bL aX rfl ⟨ct,trivial⟩ (fun _=>trivial) ?_;refine bL qd rfl ⟨ct,ct,trivial⟩ (fun _=>by omega) ?_;refine bL BK rfl ⟨ct,ct,trivial⟩ (fun _=>⟨hsm,hp⟩) ?_;refine aZ ?_;refine dD (iv [0,3,4,5,6,20,21,24,25,55,56] [(0,_,_),(3,_,_),(4,_,_),(5,_,_),(6,_,_),(20,_,_),(21,_,_),(24,_,_),(25,_,_),(55,_,_),(56,_,_)] rfl (fun w6 hb6=>ek ?_));refine bV (by kernel_rfl) (by kernel_rfl) rfl ?_;have hF6:=hF4.step hb6;refine bi rfl is154.q rfl rfl hF6.fst (by simp; omega) rfl ?_;rintro w7 hB7 hbut7 hsz7;refine bG (aS [0,3,4,5,6,20,21,24,25] [(0,_,_),(3,_,_),(4,_,_),(5,_,_),(6,_,_),(20,_,_),(21,_,_),(24,_,_),(25,_,_)] rfl (dJ ?_));refine ed rfl (aS [0,3,4,5,6,20,21,24,25] [(0,_,_),(3,_,_),(4,_,_),(5,_,_),(6,_,_),(20,_,_),(21,_,_),(24,_,_),(25,_,_)] rfl (bP (bP (aD ?_))));refine ag ?_;have hF7:SrchF w7 g m d us dv (.slice U1 us.length ucap) g1 (F'.set i (F'.getD i 0 ||| 1 <<< j)):=by
     refine ⟨⟨?_,hF6.s.dist.mono (lC hbut7 (by omega)),hF6.s.units.mono (lC hbut7 (by omega))⟩,by simp [hF6.len],?_,fun z hz=> ?_⟩
     ·have:=hbut7.blk hF6.s.blk hgf;simpa using this
     ·simpa [List.map_set] using hB7
     ·rcases List.mem_or_eq_of_mem_set hz with h|h
      ·exact hF6.small z h
      ·rw [h]; exact Nat.or_lt_two_pow hsm hp
    have hB7':But g w w7:=⟨hbut7.os.trans (hB4.step hb6).os,hbut7.tape.trans (hB4.step hb6).tape,hbut7.output.trans (hB4.step hb6).output,Nat.le_trans (hB4.step hb6).size hbut7.size,fun k hk hne=>(hbut7.block k (Nat.lt_of_lt_of_le hk (hB4.step hb6).size) (fun e=>by cases e; omega)).trans ((hB4.step hb6).block k hk hne)⟩;refine aC (i+1,F'.set i (F'.getD i 0 ||| 1 <<< j)) ⟨by show i+1<=j; omega,hB7',hF7,?_⟩;refine (hMW'.set hF4.len hu hv (by omega) hnf1).congr fun a b u' v' ha hb hab hnf'=> ?_;unfold Seen;constructor
    ·rintro (h|⟨rfl,rfl⟩)
     ·dsimp only; omega
     ·dsimp only; omega
    ·intro h;dsimp only at h;by_cases hab':a=j/\b=i
     ·obtain ⟨rfl,rfl⟩:=hab';rw [hv] at ha; cases ha;rw [hu] at hb; cases hb;exact absurd hbk hnf'
     ·by_cases h2:a=i/\b=j
      ·exact .inr h2
      ·left; omega
   have hfo:Fits d u v:=by
    cases hq:dec (Fits d u v) with
    | true=>exact dec_iff.1 hq
    | false=>simp [hq] at hf
   refine ag ?_;refine au rfl (fun hnb=> ?_) (fun hbb=> ?_)
   ·skip
    have hnb1: ¬Fits d v u:=fun h=>by simp [ay h] at hnb
    have hxl:j<F'.length:=by rw [hF4.len]; omega
    have hcF:w4.cell? (Addr.add ⟨g1,0,none⟩ ((j:Int).toNat*1))=some (.int .u32 ((F'.getD j 0:Nat):Int)):=hF4.fst.fld (by simp [List.getD_eq_getElem?_getD,hxl]);have hsm:F'.getD j 0<2 ^ 32:=hF4.small _ (by rw [List.getD_eq_getElem?_getD,ZD hxl]; exact List.getElem_mem hxl);have hp:(1 <<< i:Nat)<2 ^ 32:=by rw [Nat.one_shiftLeft]; exact Nat.pow_lt_pow_right (by decide) (by omega)
    refine dE mixed fun W5 hb5=> ?_;refine dL .weak 11 (by kernel_rfl) (by kernel_rfl) rfl rfl hb5 ?_;refine aZ ?_;refine bL bO rfl ⟨ct,trivial⟩ (fun _=>trivial) ?_;refine aZ ?_;refine aB rfl (hF4.s.blk.fld rfl) ?_;refine aZ ?_;refine aB rfl hcF ?_;refine bL aX rfl ⟨ct,trivial⟩ (fun _=>trivial) ?_;refine bL qd rfl ⟨ct,ct,trivial⟩ (fun _=>by omega) ?_;refine bL BK rfl ⟨ct,ct,trivial⟩ (fun _=>⟨hsm,hp⟩) ?_;refine aZ ?_;refine dD (iv [0,3,4,5,6,20,21,24,25,69,70] [(0,_,_),(3,_,_),(4,_,_),(5,_,_),(6,_,_),(20,_,_),(21,_,_),(24,_,_),(25,_,_),(69,_,_),(70,_,_)] rfl (fun w6 hb6=>ek ?_));refine bV (by kernel_rfl) (by kernel_rfl) rfl ?_;have hF6:=hF4.step hb6;refine bi rfl is154.q rfl rfl hF6.fst (by simp; omega) rfl ?_;rintro w7 hB7 hbut7 hsz7;refine bG (aS [0,3,4,5,6,20,21,24,25] [(0,_,_),(3,_,_),(4,_,_),(5,_,_),(6,_,_),(20,_,_),(21,_,_),(24,_,_),(25,_,_)] rfl (dJ ?_));refine ed rfl (aS [0,3,4,5,6,20,21,24,25] [(0,_,_),(3,_,_),(4,_,_),(5,_,_),(6,_,_),(20,_,_),(21,_,_),(24,_,_),(25,_,_)] rfl (bP (bP (aD ?_))));refine ag ?_;have hF7:SrchF w7 g m d us dv (.slice U1 us.length ucap) g1 (F'.set j (F'.getD j 0 ||| 1 <<< i)):=by
     refine ⟨⟨?_,hF6.s.dist.mono (lC hbut7 (by omega)),hF6.s.units.mono (lC hbut7 (by omega))⟩,by simp [hF6.len],?_,fun z hz=> ?_⟩
     ·have:=hbut7.blk hF6.s.blk hgf;simpa using this
     ·simpa [List.map_set] using hB7
     ·rcases List.mem_or_eq_of_mem_set hz with h|h
      ·exact hF6.small z h
      ·rw [h]; exact Nat.or_lt_two_pow hsm hp
    have hB7':But g w w7:=⟨hbut7.os.trans (hB4.step hb6).os,hbut7.tape.trans (hB4.step hb6).tape,hbut7.output.trans (hB4.step hb6).output,Nat.le_trans (hB4.step hb6).size hbut7.size,fun k hk hne=>(hbut7.block k (Nat.lt_of_lt_of_le hk (hB4.step hb6).size) (fun e=>by cases e; omega)).trans ((hB4.step hb6).block k hk hne)⟩;refine aC (i+1,F'.set j (F'.getD j 0 ||| 1 <<< i)) ⟨by show i+1<=j; omega,hB7',hF7,?_⟩;refine (hMW'.set hF4.len hv hu (by omega) hnb1).congr fun a b u' v' ha hb hab hnf'=> ?_;unfold Seen;constructor
    ·rintro (h|⟨rfl,rfl⟩)
     ·dsimp only; omega
     ·dsimp only; omega
    ·intro h;dsimp only at h;by_cases hab':a=i/\b=j
     ·obtain ⟨rfl,rfl⟩:=hab';rw [hu] at ha; cases ha;rw [hv] at hb; cases hb;exact absurd hfo hnf'
     ·by_cases h2:a=j/\b=i
      ·exact .inr h2
      ·left; omega
   have hbk:Fits d v u:=by
    cases hq:dec (Fits d v u) with
    | true=>exact dec_iff.1 hq
    | false=>simp [hq] at hbb
   refine ag ?_;refine aC (i+1,F') ⟨by show i+1<=j; omega,hB4,hF4,?_⟩;refine hMW'.congr fun a b u' v' ha hb hab hnf'=> ?_;unfold Seen;constructor
   ·intro h; dsimp only; omega
   ·intro h;dsimp only at h;by_cases h1:a=i/\b=j
    ·obtain ⟨rfl,rfl⟩:=h1;rw [hu] at ha; cases ha;rw [hv] at hb; cases hb;exact absurd hfo hnf'
    ·by_cases h2:a=j/\b=i
     ·obtain ⟨rfl,rfl⟩:=h2;rw [hv] at ha; cases ha;rw [hu] at hb; cases hb;exact absurd hbk hnf'
     ·omega
  ·refine ag ?_;refine aC (j+1,F') ⟨by show j+1<=us.length; omega,hBW',hFW',?_⟩;refine hMW'.congr fun a b u' v' ha hb hab hnf'=> ?_;unfold Seen;dsimp only;omega
 ·refine ag ?_;refine aW rfl (⟨hBW,.inr ⟨rfl,g1,F,hFW,fun i j u v hi hj=> ?_,fun i j hi hb=>by obtain ⟨_,_,v,hv,_⟩:=(hMW i us[i] (ZD hi) j).1 hb; exact (ZE hv).1⟩⟩);rw [hMW i u hi j];have h1:=(ZE hi).1;have h2:=(ZE hj).1;constructor
  ·rintro ⟨_,q1,v',q2,q3⟩;rw [hj] at q2; cases q2;exact ⟨q1,q3⟩
  ·rintro ⟨q1,q2⟩;exact ⟨.inl ⟨by omega,by omega⟩,q1,v,hj,q2⟩
end Go.Proofs.YtobaafdejnimkaaGreatDoor
namespace Go.Ord
open Go.PF
variable {d:bA}
def fu (F:List Nat) (k c:Nat):List Nat:=(List.range c).filter fun i=> !k.testBit i&&decide (nk (F.getD i 0) k=0)
noncomputable def ku (d:bA) (us:List U) (s:St) (i:Nat):Bool:=dec (∃u,us[i]?=some u/\zM d s u)
noncomputable def zt (d:bA) (us:List U) (s:St) (l:List Nat):List Nat:=match l.find? (ku d us s) with
 | some i=> [i]
 | none=>l
def Cho (d:bA) (us:List U) (F:List Nat) (k:Nat) (s:St) (L:List Nat):Prop :=
 ((∃(i:Nat) (u:U),us[i]?=some u/\k.testBit i=false/\ ¬gK d s u)/\L= []) ∨
 ((∀(i:Nat) (u:U),us[i]?=some u->k.testBit i=false->gK d s u)/\L=zt d us s (fu F k us.length))
theorem oN (F:List Nat) (k c:Nat):fu F k (c+1)=fu F k c++if (!k.testBit c&&decide (nk (F.getD c 0) k=0))=true then [c] else []:=by
 unfold fu;rw [List.range_succ,List.filter_append]
 congr 1
 by_cases h:(!k.testBit c&&decide (nk (F.getD c 0) k=0))=true
 ·rw [if_pos h];simp only [List.filter,h]
 ·rw [if_neg h];have h':(!k.testBit c&&decide (nk (F.getD c 0) k=0))=false:=by simpa using h
  simp only [List.filter,h']
theorem mem_lstTo {F:List Nat} {k c i:Nat}:i∈fu F k c↔i<c/\k.testBit i=false/\nk (F.getD i 0) k=0:=by
 unfold fu;rw [List.mem_filter,List.mem_range];simp
theorem Cho.mem {us:List U} {F:List Nat} {k:Nat} {s:St} {L:List Nat} (h:Cho d us F k s L) {i:Nat} (hi:i∈L): ∃u,us[i]?=some u/\k.testBit i=false/\gK d s u:=by
 rcases h with ⟨_,rfl⟩|⟨hc,rfl⟩
 ·cases hi
 ·have hm:i∈fu F k us.length:=by
   unfold zt at hi
   split at hi
   ·rename_i y hy;rw [List.mem_singleton] at hi;subst hi;exact List.mem_of_find?_eq_some hy
   ·exact hi
  obtain ⟨h1,h2,_⟩:=mem_lstTo.1 hm;exact ⟨us[i],ZD h1,h2,hc i _ (ZD h1) h2⟩
def Way (d:bA) (us:List U) (k:Nat) (s:St) (c:Nat):Prop:= ∃T:List U,T.length=c/\Run d (none,0) T/\fin d (none,0) T=s/\(T++left us k).Perm us
theorem Way.zero (us:List U):Way d us 0 (none,0) 0:=⟨[],rfl,trivial,rfl,by rw [lu]; exact List.Perm.refl _⟩
theorem Way.step {us:List U} {k c i:Nat} {s:St} {u:U} (h:Way d us k s c) (hu:us[i]?=some u) (hk:k.testBit i=false) (hc:gK d s u):Way d us (k ||| 1 <<< i) (nxt d s u) (c+1):=by
 obtain ⟨T,h1,h2,h3,h4⟩:=h;refine ⟨T++ [u],by simp [h1],?_,?_,?_⟩
 ·rw [Run.append,h3]; exact ⟨h2,hc,trivial⟩
 ·rw [Bn,h3]; rfl
 ·rw [List.append_assoc];exact (List.Perm.append_left T (jd hk hu).symm).trans h4
theorem Way.feas {us:List U} {k:Nat} {s:St} (h:Way d us k s us.length):Feas d (none,0) us:=by
 obtain ⟨T,h1,h2,h3,h4⟩:=h;have hl:=h4.length_eq;rw [List.length_append,h1] at hl;have h0:left us k= []:=List.eq_nil_of_length_eq_zero (by omega);rw [h0,List.append_nil] at h4;exact ⟨T,h4,h2⟩
theorem Way.sok {us:List U} {k c:Nat} {s:St} (hu: ∀u∈us,UOK d u) (h:Way d us k s c):qT d s:=by
 obtain ⟨T,h1,h2,h3,h4⟩:=h;rw [<-h3];refine wF (fun x hx=>by cases hx) fun u hT=>hu u (h4.mem_iff.1 (List.mem_append_left _ hT))
end Go.Ord
namespace Go.Proofs.YtobaafdejnimkaaGreatDoor
open Tryz
open Go.PF Go.RowKit Go.Ord
attribute [local irreducible] TW CW KW DW
variable {w:World}
def Nums (w:World) (b:Nat) (v:Value) (L:List Nat):Prop:= ∃n,n=L.length/\OwnS w 3 1 v n (L.map fun i:Nat=>Value.int .i64 (i:Int))/\ ∀g,v.ownBlock=some g->b<=g
theorem Nums.below {w w':World} {b:Nat} {v:Value} {L:List Nat} (h:Nums w b v L) (hb:Below w.heap.size w w'):Nums w' b v L:=by
 obtain ⟨n,h1,h2,h3⟩:=h;exact ⟨n,h1,h2.below hb,h3⟩
theorem Nums.nil (w:World) (b:Nat):Nums w b (.slice none 0 0) []:=⟨0,rfl,OwnS.nil _ _ _,fun g h=>by simp [Value.ownBlock] at h⟩
theorem CL (k c:Nat):((k &&& 1 <<< c:Nat):Int)≠0↔k.testBit c=true:=by
 have e:k &&& 1 <<< c=2 ^ c*(k.testBit c).toNat:=by
  apply Nat.eq_of_testBit_eq;intro i;rw [Nat.testBit_and,Nat.one_shiftLeft,Nat.testBit_two_pow];by_cases h:c=i
  ·subst h;cases hb:k.testBit c<;>simp
  ·cases hb:k.testBit c with
   | false=>simp [h]
   | true=>simp [h,Nat.testBit_two_pow]
 rw [e]
 cases hb:k.testBit c with
 | false=>simp
 | true =>
  have:=Nat.two_pow_pos c;simp only [Bool.toNat_true,Nat.mul_one,iff_true];intro h;have h':(2 ^ c:Nat)=0:=by exact_mod_cast h
  omega
def IZ:Option Nat->Int
 | none=> -1
 | some i=>i
theorem vW {g m k gf:Nat} {d:bA} {us:List U} {dv uv:Value} {F:List Nat} {s:St} (hwd:WfD d) (hS:SrchF w g m d us dv uv gf F) (hn: ∀u∈us,Num d u) (h16:us.length<=16) (hk:k<2 ^ 32) (hs:qT d s) (ht:0<=s.2/\s.2<=3000000) :
  Gives prog 161 #[.pointer (some ⟨g,0,none⟩),.agg #[.int .u32 (k:Int),.int .i64 (eU s.1)],.int .i64 s.2] w fun x w'=>Below w.heap.size w w'/\ ∃L,Nums w' w.heap.size x L/\Cho d us F k s L:=by
 obtain ⟨U1,ucap,rfl,_⟩:=hS.s.units.form;refine gv (f:=161) ?_;refine ag ?_;refine aG rfl rfl rfl rfl ?_;rintro g1 w1 f1;refine ag ?_;refine aT bO rfl ⟨ct,trivial⟩ (fun _=>trivial) ?_;refine ag ?_;refine aj rfl ((hS.step f1.below).s.blk.fld rfl) ?_;refine ag ?_;refine aJ [0,2,4,14] (fun x:Nat×Value×Int=> [(7,none,x.2.1),(8,none,.int .i64 x.2.2),(15,none,.int .i64 (x.1:Int))])
  (fun x W=>x.1<=us.length/\Below w1.heap.size w1 W/\Nums W w1.heap.size x.2.1 (fu F k x.1)/\x.2.2=IZ ((fu F k x.1).find? (ku d us s))/\ ∀(i:Nat) (u:U),i<x.1->us[i]?=some u->k.testBit i=false->gK d s u) (fun x=>us.length-x.1) (0,.slice none 0 0,-1) ⟨ZB,ZA,Nums.nil _ _,rfl,fun i u hi=>by omega⟩ ?_
 rintro ⟨c,lv,fr⟩ W ⟨hc,hB,hL,hfr,hcan⟩;dsimp only at hc hB hL hfr hcan;refine ag ?_;refine ai rfl (fun hlt=> ?_) (fun hge=> ?_)
 ·have hcl:c<us.length:=by omega
  have hBk:=f1.blk.next hB;have hpc:(1 <<< c:Nat)<2 ^ 32:=by rw [Nat.one_shiftLeft]; exact Nat.pow_lt_pow_right (by decide) (by omega)
  refine ag ?_;refine bg mixed (by kernel_rfl) ?_;refine aZ ?_;refine aB rfl (hBk.fld rfl) ?_;refine bL aX rfl ⟨ct,trivial⟩ (fun _=>trivial) ?_;refine bL qd rfl ⟨ct,ct,trivial⟩ (fun _=>by omega) ?_;refine bL J7 rfl ⟨ct,ct,trivial⟩ (fun _=>⟨hk,hpc⟩) ?_;refine aZ ?_;refine bR [0,2,4,7,8,9,14,15,23] rfl fun w2 hb2=> ?_;refine aD ?_;obtain ⟨u,hu⟩: ∃u,us[c]?=some u:=⟨us[c],ZD hcl⟩;have nu:=hn u (ZF hu);have hB2:=hB.step hb2;refine ai rfl (fun hbit=> ?_) (fun hnbit=> ?_)
  ·refine ag ?_;have hbt:=(CL k c).1 hbit;have hls:fu F k (c+1)=fu F k c:=by rw [oN,hbt]; simp
   refine aC (c+1,lv,fr) ⟨by show c+1<=us.length; omega,hB2,?_,?_,fun i u' hi hu' hb=> ?_⟩
   ·show Nums _ _ lv (fu F k (c+1));rw [hls];exact hL.below hb2
   ·show fr=IZ ((fu F k (c+1)).find? _);rw [hls];exact hfr
   ·have hi:i<c+1:=hi;rcases ZI i c with h|h
    ·exact hcan i u' h hu' hb
    ·obtain rfl:i=c:=by omega
     rw [hbt] at hb; cases hb
  have hnb:k.testBit c=false:=by
   cases hq:k.testBit c with
   | false=>rfl
   | true=>exact absurd ((CL k c).2 hq) hnbit
  have hS2:=(hS.step f1.below).step hB2;have hBk2:=hBk.next hb2;refine ag ?_;refine aF rfl (fun _ _ h=>hBk2.fld h) ?_;refine ag ?_;refine aA rfl (jK (k:=k) hwd hS2.s hu nu hs ⟨by omega,ht.2⟩) ?_;rintro y3 w3 ⟨hb3,rfl⟩;refine ag ?_;refine ai rfl (fun hneg=> ?_) (fun hpos=> ?_)
  ·refine ag ?_;refine aW rfl ⟨f1.below.step (hB2.step hb3),[],Nums.nil _ _,.inl ⟨⟨c,u,hu,hnb,fun h=> ?_⟩,rfl⟩⟩;have:=(iE (s:=s) nu).2 h;omega
  have hcu:gK d s u:=(iE nu).1 (by omega);have hS3:=hS2.step hb3;have hB3:=hB2.step hb3;have hBk3:=hBk2.next hb3;have hcF:c<F.length:=by rw [hS.len]; exact hcl
  have hc3:w3.cell? (Addr.add ⟨gf,0,none⟩ ((c:Int).toNat*1))=some (.int .u32 ((F.getD c 0:Nat):Int)):=hS3.fst.fld (by simp [List.getD_eq_getElem?_getD,hcF]);refine ag ?_;refine bg mixed (by kernel_rfl) ?_;refine aZ ?_;refine bL bO rfl ⟨ct,trivial⟩ (fun _=>trivial) ?_;refine aZ ?_;refine aB rfl (hS3.s.blk.fld rfl) ?_;refine bL aX rfl ⟨ct,trivial⟩ (fun _=>trivial) ?_;refine bL dW rfl ⟨ct,ct,trivial⟩ (fun _=>by have:=hS.len; (try dsimp only); omega) ?_;refine aB rfl hc3 ?_;refine aZ ?_;refine aB rfl (hBk3.fld rfl) ?_;refine bL uA rfl ⟨ct,ct,trivial⟩ (fun _=>trivial) ?_;refine aZ ?_;refine bR [0,2,4,7,8,9,14,15,40] rfl fun w4 hb4=> ?_;refine aD ?_;have hB4:=hB3.step hb4;have hBk4:=hBk3.next hb4;have hS4:=hS3.step hb4;refine ai rfl (fun hzero=> ?_) (fun hnz=> ?_)
  ·refine ag ?_;refine ak 3 _ rfl rfl rfl gQ (aa rfl ct ah) rfl rfl rfl rfl rfl ?_;rintro g5 w5 f5;obtain ⟨n,hnl,hown,hvg⟩:=((((hL.below hb2).below hb3).below hb4).below f5.below);have hnc:n<=c:=by rw [hnl]; unfold fu; exact Nat.le_trans (List.length_filter_le _ _) (by simp)
   refine aK [.int .i64 (c:Int)] rfl rfl lF rfl hown rfl rfl (fun j v hj=>⟨⟨g5,0,none⟩,rfl,f5.blk.fld hj⟩) (fun v hv=>by simp at hv; subst hv; rfl) (by omega) (by omega) ?_;rintro lv' w6 hown6 hg6 hnew6;refine ag ?_;have hB5:=hB4.step f5.below;have hs5:=hB5.size;have hB6:Below w1.heap.size w1 w6:=hB5.grown hg6 hs5 (fun q hq=>hvg q hq);have hS6:=(hS.step f1.below).step hB6;have hBk6:=f1.blk.next hB6;have hz0:nk (F.getD c 0) k=0:=by exact_mod_cast hzero
   have hls:fu F k (c+1)=fu F k c++ [c]:=by rw [oN,hnb,hz0]; simp
   have hfa:ku d us s c=dec (zM d s u):=fJ ⟨fun ⟨u',h1,h2⟩=>by rw [hu] at h1; cases h1; exact h2,fun h=>⟨u,hu,h⟩⟩;have hN6:Nums w6 w1.heap.size lv' (fu F k (c+1)):=by
    refine ⟨n+1,?_,?_,fun q hq=> ?_⟩
    ·rw [hls,List.length_append,<-hnl]; rfl
    ·rw [hls,List.map_append]; exact hown6
    ·rcases hnew6 with h|h
     ·exact hvg q (by rw [<-h]; exact hq)
     ·rw [h] at hq; cases hq; exact hs5
   have hcan': ∀(i:Nat) (u':U),i<c+1->us[i]?=some u'->k.testBit i=false->gK d s u':=fun i u' hi hu' hb=>by
    rcases ZI i c with h|h
    ·exact hcan i u' h hu' hb
    ·obtain rfl:i=c:=by omega
     rw [hu] at hu'; cases hu'; exact hcu
   refine aF rfl (fun _ _ h=>hBk6.fld h) ?_;refine ag ?_;refine aO (cap:= []) rfl rfl ie225.q rfl ct (aa rfl id (aa rfl id (aa rfl id (aa rfl id ah)))) (fun _=>LZ (k:=k) hwd hS6.s hu nu hs ht) ?_;rintro w7 hb7;refine ag ?_;refine aI [0,2,4,7,8,9,14,15,53] rfl ?_;have hffr:IZ ((fu F k (c+1)).find? (ku d us s))=if (decide (fr<0)&&dec (zM d s u))=true then (c:Int) else fr:=by
    rw [hls,List.find?_append,hfr,<-hfa]
    cases hq:(fu F k c).find? (ku d us s) with
    | some y =>
     have: ¬((y:Int)<0):=by omega
     simp [IZ,this]
    | none =>
     cases hz:ku d us s c<;>simp [IZ,List.find?,hz]
   refine au rfl (fun hyes=> ?_) (fun hno=> ?_)
   ·refine ag ?_;refine aC (c+1,lv',(c:Int)) ⟨by show c+1<=us.length; omega,hB6.step hb7,hN6.below hb7,?_,hcan'⟩;show (c:Int)=IZ ((fu F k (c+1)).find? (ku d us s));rw [hffr,if_pos hyes]
   ·refine ag ?_;refine aC (c+1,lv',fr) ⟨by show c+1<=us.length; omega,hB6.step hb7,hN6.below hb7,?_,hcan'⟩;show fr=IZ ((fu F k (c+1)).find? (ku d us s));rw [hffr,if_neg (by rw [hno]; simp)]
  ·refine ag ?_;have hz0: ¬nk (F.getD c 0) k=0:=fun h=>hnz (by rw [h]; rfl);have hls:fu F k (c+1)=fu F k c:=by rw [oN,if_neg (fun h=>by rw [Bool.and_eq_true,decide_eq_true_eq] at h; exact hz0 h.2),List.append_nil]
   refine aC (c+1,lv,fr) ⟨by show c+1<=us.length; omega,hB4,?_,?_,fun i u' hi hu' hb=> ?_⟩
   ·show Nums _ _ lv (fu F k (c+1));rw [hls];exact ((hL.below hb2).below hb3).below hb4
   ·show fr=IZ ((fu F k (c+1)).find? _);rw [hls];exact hfr
   ·have hi:i<c+1:=hi;rcases ZI i c with h|h
    ·exact hcan i u' h hu' hb
    ·obtain rfl:i=c:=by omega
     rw [hu] at hu'; cases hu'; exact hcu
 ·have hce:c=us.length:=by omega
  subst hce;have hall: ∀(i:Nat) (u:U),us[i]?=some u->k.testBit i=false->gK d s u:=fun i u hu hb=>hcan i u (ZE hu).1 hu hb;refine ag ?_;refine ai rfl (fun hge0=> ?_) (fun hlt0=> ?_)
  ·refine ag ?_;obtain ⟨y,hy⟩: ∃y,(fu F k us.length).find? (ku d us s)=some y:=by
    cases hq:(fu F k us.length).find? (ku d us s) with
    | some y=>exact ⟨y,rfl⟩
    | none =>
     rw [hq] at hfr;rw [hfr] at hge0;simp only [IZ] at hge0;exact absurd hge0 (by omega)
   rw [hy] at hfr;subst hfr;refine ak 3 _ rfl rfl rfl gQ (aa rfl ct ah) rfl rfl rfl rfl rfl ?_;rintro g5 w5 f5;refine ag ?_;refine aW rfl ⟨f1.below.step (hB.step f5.below),[y],⟨1,rfl,?_,fun q hq=> ?_⟩,.inr ⟨hall,?_⟩⟩
   ·exact bu f5.blk rfl (by decide)
   ·have e5:g5=q:=by simpa [Value.ownBlock] using hq
    subst e5;have:=f5.at_;have:=hB.size;have:=f1.below.size;omega
   ·unfold zt;rw [hy]
  ·refine ag ?_;refine aW rfl ⟨f1.below.step hB,fu F k us.length,?_,.inr ⟨hall,?_⟩⟩
   ·obtain ⟨n,h1,h2,h3⟩:=hL;exact ⟨n,h1,h2,fun q hq=>Nat.le_trans f1.below.size (h3 q hq)⟩
   ·unfold zt
    cases hq:(fu F k us.length).find? (ku d us s) with
    | none=>rfl
    | some y =>
     rw [hq] at hfr;exact absurd (by rw [hfr]; simp only [IZ]; omega) hlt0
theorem Nums.form {w:World} {b:Nat} {v:Value} {L:List Nat} (h:Nums w b v L): ∃A cap,v= .slice A L.length cap/\L.length<=cap:=by
 obtain ⟨n,rfl,h2,h3⟩:=h;obtain ⟨A,cap,hv,hc,_⟩:=h2.form;exact ⟨A,cap,hv,hc⟩
theorem Nums.get {b:Nat} {A:Option Addr} {n cap:Nat} {L:List Nat} (h:Nums w b (.slice A n cap) L) {i x:Nat} (hx:L[i]?=some x): ∃g,A=some ⟨g,0,none⟩/\w.cell? (Addr.add ⟨g,0,none⟩ ((i:Int).toNat*1))=some (.int .i64 (x:Int)):=by
 obtain ⟨m,rfl,h2,h3⟩:=h;obtain ⟨A',cap',hv,hc,hl,hcell⟩:=h2.form;simp only [Value.slice.injEq] at hv;obtain ⟨rfl,_,rfl⟩:=hv;obtain ⟨g,hA,_,hc2,_⟩:=hcell i (.int .i64 (x:Int)) (by simp [hx]);refine ⟨g,hA,?_⟩;rw [ja];simpa using hc2
theorem Nums.kept {w w':World} {b g:Nat} {v:Value} {L:List Nat} (h:Nums w b v L) (hb:But g w w') (hg:g<b):Nums w' b v L:=by
 obtain ⟨n,h1,h2,h3⟩:=h;refine ⟨n,h1,h2.kept fun q hq=>hb.block q (h2.lt hq) (fun e=> ?_),h3⟩;cases e;have:=h3 _ hq;omega
theorem Nums.big {b:Nat} {v:Value} {L:List Nat} (h:Nums w b v L):L.length<=9223372036854775807:=by
 obtain ⟨n,h1,h2,h3⟩:=h;rcases h2.2 with ⟨rfl,h0⟩|⟨g,cap,cur,hv,hg,hh,ha,hb,hc,hd⟩
 ·omega
 ·simp only [maxLen] at hb;omega
theorem Ci {g m gf:Nat} {d:bA} {us:List U} {dv uv:Value} {F:List Nat} (hwd:WfD d) (hS:SrchF w g m d us dv uv gf F) (hn: ∀u∈us,Num d u) (h16:us.length<=16) :
  Gives prog 86 #[.pointer (some ⟨g,0,none⟩)] w fun x w'=>Below w.heap.size w w' /\
   (x= .tuple #[.slice none 0 0,.bool false]∨ ∃v L,x= .tuple #[v,.bool true]/\Nums w' w.heap.size v L/\(∀i∈L,i<us.length)/\Feas d (none,0) us):=by
 obtain ⟨U1,ucap,rfl,_⟩:=hS.s.units.form;refine gv (f:=86) ?_;refine ag ?_;refine aH [1] [.const (.int .i64 (-1))] [.int .u32 ((0:Nat):Int),.int .i64 (-1)] rfl rfl rfl (aa rfl ct ah) (by kernel_rfl) ?_;refine aM rfl mF rfl is156.q rfl rfl ?_;rintro g1 w1 f1;refine ag ?_;refine aT bO rfl ⟨ct,trivial⟩ (fun _=>trivial) ?_;refine ag ?_;refine aj rfl ((hS.step f1.below).s.blk.fld rfl) ?_;refine ag ?_;have hg1:=f1.at_;have hw1:=f1.size;refine aJ [0,4,14] (fun x:Nat×Nat×St×Value=> [(5,none,.int .i64 x.2.2.1.2),(6,none,x.2.2.2),(15,none,.int .i64 (x.1:Int))])
  (fun x W=>x.1<=us.length/\Below w.heap.size w W/\w1.heap.size<=W.heap.size/\Blk W g1 156 [.int .u32 (x.2.1:Int),.int .i64 (eU x.2.2.1.1)]/\(∃L,Nums W w1.heap.size x.2.2.2 L/\L.length=x.1/\ ∀i∈L,i<us.length)/\Go.Ord.Way d us x.2.1 x.2.2.1 x.1/\x.2.1<2 ^ 32/\0<=x.2.2.1.2/\x.2.2.1.2<=3000000) (fun x=>us.length-x.1) (0,0,(none,0),.slice none 0 0) ⟨ZB,f1.below,ZC,f1.blk,⟨[],Nums.nil _ _,rfl,fun i hi=>by cases hi⟩,Go.Ord.Way.zero us,(by decide:0<2 ^ 32),Int.le_refl _,(by decide:(0:Int)<=3000000)⟩ ?_
 rintro ⟨c,k,s,sv⟩ W ⟨hc,hB,hsz,hBk,⟨L,hL,hLl,hLi⟩,hway,hk,ht0,ht1⟩;dsimp only at hc hB hsz hBk hL hLl hway hk ht0 ht1;refine ag ?_;refine ai rfl (fun hlt=> ?_) (fun hge=> ?_)
 ·have hcl:c<us.length:=by omega
  have hSW:=hS.step hB;have hsok:qT d s:=hway.sok fun u hu=>(hn u hu).ok;refine ag ?_;refine aF rfl (fun _ _ h=>hBk.fld h) ?_;refine ag ?_;refine aA rfl (vW (k:=k) hwd hSW hn h16 hk hsok ⟨ht0,ht1⟩) ?_;rintro y2 w2 ⟨hb2,M,hM,hcho⟩;obtain ⟨A2,cap2,rfl,_⟩:=hM.form;refine ag ?_;refine aI [0,4,5,6,7,14,15,23] rfl ?_;refine ai rfl (fun hz=> ?_) (fun hnz=> ?_)
  ·refine ag ?_;refine jH rfl ⟨hB.step hb2,.inl rfl⟩
  obtain ⟨i,hi⟩: ∃i,M[0]?=some i:=by
   cases M with
   | nil=>exact absurd rfl hnz
   | cons a M=>exact ⟨a,rfl⟩
  obtain ⟨ga,rfl,hci⟩:=hM.get hi;obtain ⟨u,hu,hbit,hcan⟩:=hcho.mem (ZF hi);have hil:i<us.length:=(ZE hu).1;have hMp:0<M.length:=(ZE hi).1;have nu:=hn u (ZF hu);have hB2:=hB.step hb2;have hS2:=hS.step hB2;have hBk2:=hBk.next hb2;obtain ⟨ua,rfl⟩:=hS.s.units.addr (by omega);obtain ⟨v1,hc1,hv1⟩:=jS hS2.s.units hu;obtain ⟨t,x,kw,ke,ks,kr,rfl,mw,me,ms,mr,cw,ce,cs,cr⟩:=hv1;have hbI:eQ d s u=kW d s u:=by unfold eQ; rw [ay hcan,if_pos rfl]
  have hbr:=lG (s:=s) nu;have hbn:=(iE (s:=s) nu).2 hcan;have hsp:=nu.span;refine ag ?_;refine aj rfl hci ?_;refine ag ?_;refine bg mixed (by kernel_rfl) ?_;refine aZ ?_;refine dx rfl (fun _ _ h=>hBk2.fld h) ?_;refine aZ ?_;refine fE (.ex (.int .i64 (eQ d s u))) trivial rfl (fun _ w' hb'=>jK (k:=k) hwd (hS2.step hb').s hu nu hsok ⟨by omega,ht1⟩) ?_;refine aZ ?_;refine bL bO rfl ⟨ct,trivial⟩ (fun _=>trivial) ?_;refine aZ ?_;refine aB rfl (hS2.s.blk.fld rfl) ?_;refine aZ ?_;refine aB rfl hc1 ?_;refine jQ (.ex (.int .i64 u.span)) trivial rfl rfl (ms) rfl ct aP (fun _ w' _=>cs w') ?_;refine aZ ?_;refine bR [0,4,5,6,7,8,14,15] rfl fun w3 hb3=> ?_;refine ag ?_;have hS3:=hS2.step hb3;have hBk3:=hBk2.next hb3;have hB3:=hB2.step hb3;refine aF rfl (fun _ _ h=>hBk3.fld h) ?_;refine ag ?_;refine aA rfl (nU (k:=k) hS3.s hu hk (by omega)) ?_;rintro y4 w4 ⟨hb4,rfl⟩;have hBk4:=hBk3.next hb4;have hB4:=hB3.step hb4;refine aQ rfl rfl rfl hBk4 is156.q rfl rfl rfl ?_;rintro w5 hBk5 hg5 hsz5;refine ag ?_;have hB5:Below w.heap.size w w5:=hB4.grown hg5 hB4.size (fun q hq=>by cases hq; omega);have hL5:Nums w5 w1.heap.size sv L:=(((hL.below hb2).below hb3).below hb4).kept hg5 (by omega)
  refine ak 3 _ rfl rfl rfl gQ (aa rfl ct ah) rfl rfl rfl rfl rfl ?_;rintro g6 w6 f6;obtain ⟨n,hnl,hown,hvg⟩:=hL5.below f6.below;refine aK [.int .i64 (i:Int)] rfl rfl lF rfl hown rfl rfl (fun j v hj=>⟨⟨g6,0,none⟩,rfl,f6.blk.fld hj⟩) (fun v hv=>by simp at hv; subst hv; rfl) (by omega) (by omega) ?_;rintro sv' w7 hown7 hg7 hnew7;refine ag ?_;have hB6:=hB5.step f6.below;have hszs:w1.heap.size<=w6.heap.size:=by have:=hb2.size; have:=hb3.size; have:=hb4.size; have:=f6.below.size; omega
  have hB7:Below w.heap.size w w7:=hB6.grown hg7 hB6.size (fun q hq=>by have:=hvg q hq; omega);have hBk7:Blk w7 g1 156 [.int .u32 ((k ||| 1 <<< i:Nat):Int),.int .i64 (u.exit:Int)]:=by
   have h6:=hBk5.next f6.below;refine (hg7.block g1 h6.lt (fun e=> ?_)).trans h6;have:=hvg g1 e.symm;omega
  have hp:(1 <<< i:Nat)<2 ^ 32:=by rw [Nat.one_shiftLeft]; exact Nat.pow_lt_pow_right (by decide) (by omega)
  refine aC (c+1,k ||| 1 <<< i,nxt d s u,sv') ⟨by show c+1<=us.length; omega,hB7,Nat.le_trans hszs hg7.size,hBk7,⟨L++ [i],⟨n+1,by simp [hnl],by rw [List.map_append]; exact hown7,fun q hq=> ?_⟩,by simp [hLl],fun j hj=> ?_⟩,hway.step hu hbit hcan,Nat.or_lt_two_pow hk hp,?_,?_⟩ (hp:=by rw [hbI]; rfl)
  ·rcases hnew7 with h|h
   ·exact hvg q (by rw [<-h]; exact hq)
   ·rw [h] at hq; cases hq; exact hszs
  ·rcases ZH hj with h|h
   ·exact hLi j h
   ·rw [List.mem_singleton] at h; omega
  ·show 0<=kW d s u+u.span;omega
  ·show kW d s u+u.span<=3000000;omega
 ·have hce:c=us.length:=by omega
  subst hce;refine ag ?_;refine jH rfl ⟨hB,.inr ⟨sv,L,rfl,?_,hLi,hway.feas⟩⟩;obtain ⟨n,h1,h2,h3⟩:=hL;exact ⟨n,h1,h2,fun q hq=>by have:=h3 q hq; omega⟩
end Go.Proofs.YtobaafdejnimkaaGreatDoor
namespace Go.Ord
open Go.PF
variable {d:bA}
abbrev SK:=Nat×Option Nat
def jC (t:Int) (u:Nat) (f:Int):Value:= .agg #[.int .i64 t,.int .i64 (u:Int),.int .i64 f]
theorem xG {t t':Int} {u u':Nat} {f f':Int} (h:jC t u f=jC t' u' f'):t=t':=by
 unfold jC at h;simp only [Value.agg.injEq,Array.mk.injEq,List.cons.injEq,Value.int.injEq,true_and] at h;exact h.1
def I5 (us:List U) (k c:Nat):Prop:=(left us k).length+c=us.length
theorem Way.cnt {us:List U} {k c:Nat} {s:St} (h:Way d us k s c):I5 us k c:=by
 obtain ⟨T,h1,_,_,h4⟩:=h;have:=h4.length_eq;rw [List.length_append,h1] at this;unfold I5;omega
def Row (d:bA) (us:List U) (c:Nat) (nx:List SK) (r:SK) (v:Value):Prop :=
 ∃ t u f n,v=jC t u f/\(u<us.length∨u=0)/\Way d us r.1 (r.2,t) n/\n<=c/\0<=t/\t<=3000000/\r.1<2 ^ 16/\(n=c->r∈nx)/\ -1<=f
structure Lev (d:bA) (us:List U) (c:Nat) (M:List (SK×Value)) (nx:List SK):Prop where
 rows: ∀p∈M,Row d us c nx p.1 p.2
 mem: ∀r∈nx,(∃v,(r,v)∈M)/\I5 us r.1 c
 nd:nx.Nodup
def Had (us:List U) (c:Nat) (M:List (SK×Value)) (lv:List SK):Prop:= ∀r∈lv,(∃v,(r,v)∈M)/\I5 us r.1 c
def Good (d:bA) (us:List U) (M:List (SK×Value)) (l:List SK):Prop:= ∃r∈l,∃t u f,(r,jC t u f)∈M/\Feas d (r.2,t) (left us r.1)
abbrev O5 (M:List (SK×Value)):Prop:=M.Pairwise fun p q=>p.1≠q.1
theorem wO {κ:Type} {M:List (κ×Value)} (h:M.Pairwise fun p q=>p.1≠q.1) {r:κ} {v v':Value} (h1:(r,v)∈M) (h2:(r,v')∈M):v=v':=by
 obtain ⟨i,hi,e1⟩:=List.getElem_of_mem h1;obtain ⟨j,hj,e2⟩:=List.getElem_of_mem h2;have hp:=List.pairwise_iff_getElem.1 h;rcases Nat.lt_trichotomy i j with q|q|q
 ·have:=hp i j hi hj q;rw [e1,e2] at this;exact absurd rfl this
 ·subst q;rw [e1] at e2;simp only [Prod.mk.injEq] at e2;exact e2.2
 ·have:=hp j i hj hi q;rw [e1,e2] at this;exact absurd rfl this
theorem Lev.start (us:List U):Lev d us 0 [((0,none),jC 0 0 0)] [(0,none)]:=by
 refine ⟨fun p hp=> ?_,fun r hr=> ?_,by simp⟩
 ·rw [List.mem_singleton] at hp;subst hp;exact ⟨0,0,0,0,rfl,.inr rfl,Way.zero us,ZC,Int.le_refl _,by decide,by decide,(fun _=>by simp),by decide⟩
 ·rw [List.mem_singleton] at hr;subst hr;exact ⟨⟨jC 0 0 0,by simp⟩,(Way.zero (d:=d) us).cnt⟩
theorem Lev.next {us:List U} {c:Nat} {M:List (SK×Value)} {lv:List SK} (h:Lev d us c M lv):Lev d us (c+1) M []:=by
 refine ⟨fun p hp=> ?_,(fun r hr=>by cases hr),List.nodup_nil⟩;obtain ⟨t,u,f,n,h1,h2,h3,h4,h5,h6,h7,h8,h9⟩:=h.rows p hp;exact ⟨t,u,f,n,h1,h2,h3,by omega,h5,h6,h7,(fun e=>by omega),h9⟩
theorem Had.put {us:List U} {c:Nat} {M:List (SK×Value)} {lv:List SK} (h:Had us c M lv) (k:SK) (v:Value):Had us c (mE M k v) lv:=by
 intro r hr;obtain ⟨⟨v',hv⟩,h2⟩:=h r hr;refine ⟨?_,h2⟩;by_cases e:r=k
 ·subst e; exact ⟨v,mem_lput.2 (.inl rfl)⟩
 ·exact ⟨v',mem_lput.2 (.inr ⟨hv,e⟩)⟩
theorem Lev.put {us:List U} {c:Nat} {M:List (SK×Value)} {nx nx':List SK} (h:Lev d us c M nx) {r:SK} {t:Int} {x:Nat} {f:Int} (hw:Way d us r.1 (r.2,t) c) (ht:0<=t/\t<=3000000) (hk:r.1<2 ^ 16) (hx:x<us.length) (hf: -1<=f) (hnd:nx'.Nodup)
  (hs: ∀q,q∈nx'↔q∈nx∨q=r):Lev d us c (mE M r (jC t x f)) nx':=by
 refine ⟨fun p hp=> ?_,fun q hq=> ?_,hnd⟩
 ·rcases mem_lput.1 hp with rfl|⟨hp,_⟩
  ·exact ⟨t,x,f,c,rfl,.inl hx,hw,ZC,ht.1,ht.2,hk,fun _=>(hs _).2 (.inr rfl),hf⟩
  ·obtain ⟨t',u,f,n,h1,h2,h3,h4,h5,h6,h7,h8,h9⟩:=h.rows p hp;exact ⟨t',u,f,n,h1,h2,h3,h4,h5,h6,h7,fun e=>(hs _).2 (.inl (h8 e)),h9⟩
 ·rcases (hs q).1 hq with hq|rfl
  ·obtain ⟨⟨v',hv⟩,h2⟩:=h.mem q hq;refine ⟨?_,h2⟩;by_cases e:q=r
   ·subst e; exact ⟨_,mem_lput.2 (.inl rfl)⟩
   ·exact ⟨v',mem_lput.2 (.inr ⟨hv,e⟩)⟩
  ·exact ⟨⟨_,mem_lput.2 (.inl rfl)⟩,hw.cnt⟩
theorem qM: ∀(B:Nat) (l:List Nat),l.Nodup->(∀x∈l,x<B)->l.length<=B
 | 0,l,_,h=>by
  cases l with
  | nil=>simp
  | cons x l=>exact absurd (h x (by simp)) (Nat.not_lt_zero _)
 | B+1,l,hn,h=>by
  have ih:=qM B (l.erase B) (hn.sublist List.erase_sublist) (fun x hx=>by
   have h1:=h x (List.mem_of_mem_erase hx);have h2:x≠B:=fun e=>by subst e; exact (hn.not_mem_erase hx)
   omega)
  by_cases hm:B∈l
  ·have:=List.length_erase_of_mem hm;omega
  ·rw [List.erase_of_not_mem hm] at ih;omega
def JI (r:SK):Nat:=r.1*14+(match r.2 with|none=>13|some o=>o)
theorem Lev.few (hd:WfD d) {us:List U} (hu: ∀u∈us,UOK d u) {c:Nat} {M:List (SK×Value)} {nx:List SK} (h:Lev d us c M nx):nx.length<=917504:=by
 have hb: ∀r∈nx,r.1<2 ^ 16/\ ∀o,r.2=some o->o<12:=by
  intro r hr;obtain ⟨⟨v,hv⟩,_⟩:=h.mem r hr;obtain ⟨t,u,f,n,_,_,hw,_,_,_,h7,_⟩:=h.rows _ hv;refine ⟨h7,fun o ho=> ?_⟩;have:=hw.sok hu o ho;have:=hd.few;omega
 have hn:(nx.map JI).Nodup:=by
  unfold List.Nodup;rw [List.pairwise_map];refine List.Pairwise.imp_of_mem ?_ h.nd;intro a b ha hb' hab e;refine hab ?_;obtain ⟨a1,a2⟩:=hb a ha;obtain ⟨b1,b2⟩:=hb b hb';obtain ⟨k,o⟩:=a;obtain ⟨k',o'⟩:=b;unfold JI at e
  cases o with
  | none=>cases o' with
   | none=>dsimp only at e; congr 1; omega
   | some y=>have:=b2 y rfl; dsimp only at e; omega
  | some x=>cases o' with
   | none=>have:=a2 x rfl; dsimp only at e; omega
   | some y =>
    have:=a2 x rfl;have:=b2 y rfl;dsimp only at e;have h1:k=k':=by omega
    have h2:x=y:=by omega
    rw [h1,h2]
 have:=qM 917504 (nx.map JI) hn (fun x hx=>by
  rw [List.mem_map] at hx;obtain ⟨r,hr,rfl⟩:=hx;obtain ⟨b1,b2⟩:=hb r hr;unfold JI
  cases ho:r.2 with
  | none=>dsimp only; omega
  | some o=>have:=b2 o ho; dsimp only; omega)
 simpa using this
theorem Lev.there {us:List U} {c:Nat} {M:List (SK×Value)} {nx:List SK} (h:Lev d us c M nx) {r:SK} {v:Value} (hv:(r,v)∈M) (hc:I5 us r.1 c):r∈nx:=by
 obtain ⟨t,u,f,n,h1,h2,h3,h4,h5,h6,h7,h8,_⟩:=h.rows _ hv;have:=h3.cnt;unfold I5 at this hc;exact h8 (by dsimp only at this; omega)
theorem Good.put {us:List U} (hu: ∀u∈us,UOK d u) {M:List (SK×Value)} (ho:O5 M) {l:List SK} (h:Good d us M l) {r:SK} {t:Int} {x:Nat} {f:Int} (hl: ∀t' u' f',(r,jC t' u' f')∈M->t<=t'):Good d us (mE M r (jC t x f)) l:=by
 obtain ⟨q,hq,t',u',f',hm,hf⟩:=h;by_cases e:q=r
 ·subst e;refine ⟨q,hq,t,x,f,mem_lput.2 (.inl rfl),Feas.better (jv (hl t' u' f' hm)) (fun y hy=> ?_) hf⟩;obtain ⟨j,_,hj⟩:=mem_left.1 hy;exact hu y (ZF hj)
 ·exact ⟨q,hq,t',u',f',mem_lput.2 (.inr ⟨hm,e⟩),hf⟩
theorem Good.more {us:List U} {M:List (SK×Value)} {l l':List SK} (h:Good d us M l) (hl: ∀r∈l,r∈l'):Good d us M l':=by
 obtain ⟨q,hq,h⟩:=h;exact ⟨q,hl q hq,h⟩
theorem Cho.feas (hd:WfD d) {us:List U} (hu: ∀u∈us,UOK d u) {F:List Nat} (hsm: ∀x∈F,x<2 ^ 32) (hF:sK d us fun i=>F.getD i 0) (hF2: ∀i j,i<us.length->(F.getD i 0).testBit j=true->j<us.length) {k c:Nat} {s:St} (hs:qT d s) {L:List Nat} (h:Cho d us F k s L)
  (hf:Feas d s (left us k)) (hc:I5 us k c) (hlt:c<us.length): ∃x∈L,∃u,us[x]?=some u/\Feas d (nxt d s u) (left us (k ||| 1 <<< x)):=by
 rcases h with ⟨⟨i,u,h1,h2,h3⟩,_⟩|⟨hcan,rfl⟩
 ·exact absurd (yZ hd hu hs hf h2 h1) h3
 ·unfold zt
  split
  ·rename_i i hi;have hm:=List.mem_of_find?_eq_some hi;have hfr:=List.find?_some hi;obtain ⟨u,hu',hfree⟩:=dec_iff.1 hfr;obtain ⟨h1,h2,h3⟩:=mem_lstTo.1 hm;exact ⟨i,by simp,u,hu',Eg hd hu hs hf h2 hu' hfree⟩
  ·have hne: ∃i,i<us.length/\k.testBit i=false:=by
    unfold I5 at hc;have hl:0<(left us k).length:=by omega
    obtain ⟨i,h1,h2⟩:=mem_left.1 (List.getElem_mem hl);exact ⟨i,(ZE h2).1,h1⟩
   obtain ⟨i,u,h1,h2,h3,h4⟩:=Ef hd hu hF hs hf hne;have hil:=(ZE h1).1;refine ⟨i,mem_lstTo.2 ⟨hil,h2,(Eu ?_).2 fun j hj=>h3 j (hF2 i j hil hj) hj⟩,u,h1,h4⟩;rw [List.getD_eq_getElem?_getD]
   cases hq:F[i]? with
   | none=>simp
   | some y=>exact hsm y (ZF hq)
end Go.Ord
namespace Go.Proofs.YtobaafdejnimkaaGreatDoor
open Tryz
open Go.PF Go.RowKit Go.Ord
variable {w:World} {b:Nat} {v:Value} {l:List SK}
theorem yx {a b:Option Nat} (h:eU a=eU b):a=b:=by
 cases a<;>cases b<;>simp only [eU] at h<;>first|rfl|omega|(congr 1; omega)
theorem Cr (a:Option Nat): -1<=eU a:=by cases a<;>simp only [eU]<;>omega
theorem JB {f:Int} (h: -1<=f): ∃o,f=eU o:=by
 by_cases q:f<0
 ·exact ⟨none,by simp only [eU]; omega⟩
 ·exact ⟨some f.toNat,by simp only [eU]; omega⟩
def Jd (r:SK):Value:= .agg #[.int .u32 (r.1:Int),.int .i64 (eU r.2)]
theorem K4 (a b:SK) (w:World):(Op.equal 156 (Jd a) (Jd b)).run prog w= .ok (decide (a=b)) w:=by
 have h:=(lm (P:=prog) (w:=w) (t:=156) (xs:= [.int .u32 (a.1:Int),.int .i64 (eU a.2)]) (ys:= [.int .u32 (b.1:Int),.int .i64 (eU b.2)]) (by kernel_rfl)).1;have e:rY [.int .u32 (a.1:Int),.int .i64 (eU a.2)] [.int .u32 (b.1:Int),.int .i64 (eU b.2)]=decide (a=b):=by
  simp only [rY,Nw,Bool.and_true];by_cases h:a=b
  ·subst h; simp
  ·have: ¬((a.1:Int)=b.1/\eU a.2=eU b.2):=fun ⟨h1,h2⟩=>h (Prod.ext (by omega) (yx h2));simp [h];intro h1 h2;exact this ⟨by omega,h2⟩
 rw [<-e];exact h
theorem K3 (e:Bool) (a:SK) (w:World):(Instr.checkKey e 10000 156 (Jd a)).run prog w= .ok () w:=by
 have h1: ∀x,(part 154 #[.int .u32 (a.1:Int),.int .i64 (eU a.2)] 0).run prog x= .ok (.int .u32 (a.1:Int)) x:=fun x=>by simp [part,isAgg,run_underlying underlying154]
 have h2: ∀x,(part 3 #[.int .u32 (a.1:Int),.int .i64 (eU a.2)] 1).run prog x= .ok (.int .i64 (eU a.2)) x:=fun x=>by simp [part,isAgg,run_underlying underlying3]
 rw [show (10000:Nat)=9998+1+1 from rfl];unfold Jd Instr.checkKey;simp only [Sem.run_bind,run_underlying underlying156,Result.andThen_ok];simp [h1,h2,jb underlying154,jb underlying3]
theorem Jc (a b:SK) (h:Jd a=Jd b):a=b:=by
 unfold Jd at h;simp only [Value.agg.injEq,Array.mk.injEq,List.cons.injEq,Value.int.injEq,true_and,and_true] at h;exact Prod.ext (by omega) (yx h.2)
def oq:GKey prog 156 SK:=Ms prog 156 Jd (fun a b=>decide (a=b)) _ underlying156 (fun a b=>by simp) K4 (fun a b=>rfl) (fun a=>by simp [Jd,Instr.sameBits]) K3 Jc
theorem On:(prog.info? 226).bind (·.zero)=some (jC 0 0 0):=by kernel_rfl
def IY (r:SK):List Value:= [.int .u32 (r.1:Int),.int .i64 (eU r.2)]
def Lst (w:World) (b:Nat) (v:Value) (l:List SK):Prop:= ∃n,n=l.length/\OwnS w 156 2 v n (l.flatMap IY)/\ ∀g,v.ownBlock=some g->b<=g
theorem Lst.below {w w':World} {b:Nat} {v:Value} {l:List SK} (h:Lst w b v l) (hb:Below w.heap.size w w'):Lst w' b v l:=by
 obtain ⟨n,h1,h2,h3⟩:=h;exact ⟨n,h1,h2.below hb,h3⟩
theorem Lst.less {b':Nat} (h:Lst w b v l) (hb:b'<=b):Lst w b' v l:=by
 obtain ⟨n,h1,h2,h3⟩:=h;exact ⟨n,h1,h2,fun g hg=>Nat.le_trans hb (h3 g hg)⟩
theorem Lst.lt {w:World} {b:Nat} {v:Value} {l:List SK} (h:Lst w b v l) {g:Nat} (hg:v.ownBlock=some g):g<w.heap.size:=by
 obtain ⟨n,h1,h2,h3⟩:=h;exact h2.lt hg
theorem Lst.kept {w w':World} {b:Nat} {o:Option Nat} {v:Value} {l:List SK} (h:Lst w b v l) (hb:w.grownBy w' o) (hg: ∀g,v.ownBlock=some g->o≠some g):Lst w' b v l:=by
 obtain ⟨n,h1,h2,h3⟩:=h;exact ⟨n,h1,h2.kept fun q hq=>hb.block q (h2.lt hq) (fun e=>hg q hq e.symm),h3⟩
theorem Lst.nil (w:World) (b:Nat):Lst w b (.slice none 0 0) []:=⟨0,rfl,OwnS.nil _ _ _,fun g h=>by simp [Value.ownBlock] at h⟩
theorem Lst.form {w:World} {b:Nat} {v:Value} {l:List SK} (h:Lst w b v l): ∃A cap,v= .slice A l.length cap:=by
 obtain ⟨n,rfl,h2,h3⟩:=h;obtain ⟨A,cap,hv,hc,_⟩:=h2.form;exact ⟨A,cap,hv⟩
theorem Lst.get {A:Option Addr} {n cap:Nat} (h:Lst w b (.slice A n cap) l) {i:Nat} {r:SK} (hr:l[i]?=some r): ∃g,A=some ⟨g,0,none⟩/\ ∀j u,(IY r)[j]?=some u->w.cell? ((Addr.add ⟨g,0,none⟩ ((i:Int).toNat*2)).add j)=some u:=by
 obtain ⟨m,rfl,h2,h3⟩:=h;obtain ⟨A',cap',hv,hc,hl,hcell⟩:=h2.form;simp only [Value.slice.injEq] at hv;obtain ⟨rfl,_,rfl⟩:=hv;have hat:=fun j (hj:j<2)=>nN IY 2 l (fun x _=>rfl) i j r hr hj;have h0:=hat 0 (by decide);obtain ⟨g,hA,_,_,_⟩:=hcell (i*2+0) (.int .u32 (r.1:Int)) (by rw [h0]; rfl);refine ⟨g,hA,fun j u hj=> ?_⟩;have hj2:j<2:=(ZE hj).1;obtain ⟨g',hA',_,hc',_⟩:=hcell (i*2+j) u (by rw [hat j hj2]; exact hj);rw [hA] at hA';simp only [Option.some.injEq,Addr.mk.injEq] at hA';obtain ⟨rfl,_,_⟩:=hA';rw [add_add,ja];simpa using hc'
theorem Lst.big (h:Lst w b v l):l.length<=9223372036854775807:=by
 obtain ⟨n,h1,h2,h3⟩:=h;rcases h2.2 with ⟨rfl,h0⟩|⟨g,cap,cur,hv,hg,hh,ha,hb,hc,hd⟩
 ·omega
 ·simp only [maxLen] at hb;omega
theorem Nums.keptO {w':World} {o:Option Nat} {L:List Nat} (h:Nums w b v L) (hb:w.grownBy w' o) (hg: ∀g,v.ownBlock=some g->o≠some g):Nums w' b v L:=by
 obtain ⟨n,h1,h2,h3⟩:=h;exact ⟨n,h1,h2.kept fun q hq=>hb.block q (h2.lt hq) (fun e=>hg q hq e.symm),h3⟩
theorem Nums.lt {w:World} {b:Nat} {v:Value} {L:List Nat} (h:Nums w b v L) {g:Nat} (hg:v.ownBlock=some g):g<w.heap.size:=by
 obtain ⟨n,h1,h2,h3⟩:=h;exact h2.lt hg
theorem Blk.keptO {w':World} {o:Option Nat} {g:Nat} {t:TypeId} {cs:List Value} (h:Blk w g t cs) (hb:w.grownBy w' o) (hg:o≠some g):Blk w' g t cs:=(hb.block g h.lt (fun e=>hg e.symm)).trans h
structure FM (w0 W:World) (bm:Nat) (M:List (SK×Value)) (lvv:Value) (lv:List SK) (b2:Nat) (nxv:Value) (nx:List SK):Prop where
 bel:Below w0.heap.size w0 W
 map:MapL oq W bm M
 lvl:Lst W (bm+1) lvv lv
 lvb: ∀g,lvv.ownBlock=some g->g<b2
 nxt:Lst W b2 nxv nx
 b0:w0.heap.size<=bm
 bb:bm<b2
 b2s:b2<=W.heap.size
theorem FM.step {w0 W W':World} {bm:Nat} {M:List (SK×Value)} {lvv:Value} {lv:List SK} {b2:Nat} {nxv:Value} {nx:List SK} (h:FM w0 W bm M lvv lv b2 nxv nx) (hb:Below W.heap.size W W'):FM w0 W' bm M lvv lv b2 nxv nx :=
 ⟨h.bel.step hb,h.map.below hb,h.lvl.below hb,h.lvb,h.nxt.below hb,h.b0,h.bb,Nat.le_trans h.b2s hb.size⟩
theorem FM.put {w0 W W':World} {bm:Nat} {M M':List (SK×Value)} {lvv:Value} {lv:List SK} {b2:Nat} {nxv:Value} {nx:List SK} (h:FM w0 W bm M lvv lv b2 nxv nx) (hs:W'.heap.size=W.heap.size) (hb:But bm W W') (hm:MapL oq W' bm M'):FM w0 W' bm M' lvv lv b2 nxv nx:=by
 refine ⟨h.bel.grown hb h.bel.size (fun q hq=>by cases hq; exact h.b0),hm,h.lvl.kept hb (fun g hg e=> ?_),h.lvb,h.nxt.kept hb (fun g hg e=> ?_),h.b0,h.bb,by rw [hs]; exact h.b2s⟩
 ·cases e;obtain ⟨n,h1,h2,h3⟩:=h.lvl;have:=h3 _ hg;omega
 ·cases e;obtain ⟨n,h1,h2,h3⟩:=h.nxt;have:=h3 _ hg;have:=h.bb;omega
theorem FM.app {w0 W W':World} {bm:Nat} {M:List (SK×Value)} {lvv:Value} {lv:List SK} {b2:Nat} {nxv nxv':Value} {nx nx':List SK} (h:FM w0 W bm M lvv lv b2 nxv nx) (hg:W.grownBy W' nxv.ownBlock) (hn:Lst W' b2 nxv' nx'):FM w0 W' bm M lvv lv b2 nxv' nx':=by
 have hown: ∀g,nxv.ownBlock=some g->b2<=g:=by obtain ⟨n,h1,h2,h3⟩:=h.nxt; exact h3
 have:=h.bb;have:=h.b0;refine ⟨h.bel.grown hg h.bel.size (fun q hq=>by have:=hown q hq; omega),h.map.kept (hg.block bm h.map.lt (fun e=>by have:=hown bm e.symm; omega)),h.lvl.kept hg (fun g hg' e=>by have:=hown g e; have:=h.lvb g hg'; omega),h.lvb,hn,h.b0,h.bb,Nat.le_trans h.b2s hg.size⟩
end Go.Proofs.YtobaafdejnimkaaGreatDoor
namespace Go.Proofs.YtobaafdejnimkaaGreatDoor
open Tryz
open Go.PF Go.RowKit Go.Ord
attribute [local irreducible] TW CW KW DW
theorem Hq {w:World} {g m gf:Nat} {d:bA} {us:List U} {dv uv:Value} {F:List Nat} (hwd:WfD d) (hS:SrchF w g m d us dv uv gf F) (hn: ∀u∈us,Num d u) (h16:us.length<=16) (hF:sK d us fun i=>F.getD i 0) (hF2: ∀i j,i<us.length->(F.getD i 0).testBit j=true->j<us.length) :
  Gives prog 87 #[.pointer (some ⟨g,0,none⟩)] w fun x w'=>Below w.heap.size w w' /\
   ((x= .tuple #[.slice none 0 0,.bool false]/\ ¬Feas d (none,0) us)∨ ∃v L,x= .tuple #[v,.bool true]/\Nums w' w.heap.size v L/\(∀i∈L,i<us.length)/\Feas d (none,0) us):=by
 have hu: ∀u∈us,UOK d u:=fun u h=>(hn u h).ok;obtain ⟨U1,ucap,rfl,_⟩:=hS.s.units.form;refine gv (f:=87) ?_;refine ag ?_;refine aH [1] [.const (.int .i64 (-1))] [.int .u32 ((0:Nat):Int),.int .i64 (-1)] rfl rfl rfl (aa rfl ct ah) (by kernel_rfl) ?_;refine aM rfl mF rfl is156.q rfl rfl ?_;rintro g1 w1 f1;refine ag ?_;refine jy oq rfl rfl ?_;rintro bm w2 hbm hw2 hb2 hM2;refine aF rfl (fun _ _ h=>(f1.blk.next hb2).fld h) ?_;refine aH [] [] [.int .i64 0,.int .i64 ((0:Nat):Int),.int .i64 0] rfl rfl rfl ah (by kernel_rfl) ?_;refine BO oq (0,none) (vz:=jC 0 0 0) rfl underlying227 rfl rfl rfl hM2 ?_;rintro w3 hw3 hbut3 hM3;refine ag ?_;have hne1:g1≠bm:=by have:=f1.size; have:=hbm; omega
 have hB3:Blk w3 g1 156 [.int .u32 ((0:Nat):Int),.int .i64 (-1)]:=hbut3.blk (f1.blk.next hb2) hne1;refine aF rfl (fun _ _ h=>hB3.fld h) ?_;refine ak 156 _ rfl rfl rfl KD (aa rfl ct ah) rfl rfl rfl rfl rfl ?_;rintro g4 w4 f4;refine ag ?_;refine aT bO rfl ⟨ct,trivial⟩ (fun _=>trivial) ?_;refine ag ?_;have hb1s:=f1.below.size;have hbelow2:Below w.heap.size w w2:=f1.below.step hb2;have hbelow3:Below w.heap.size w w3:=hbelow2.grown hbut3 hbelow2.size (fun q hq=>by cases hq; have:=hbm; omega);have hbelow4:=hbelow3.step f4.below;have hFM0:FM w w4 bm [((0,none),jC 0 0 0)] (.slice (some ⟨g4,0,none⟩) 1 1) [(0,none)] w4.heap.size (.slice none 0 0) []:=by
  refine ⟨hbelow4,?_,⟨1,rfl,bu f4.blk rfl (by decide),fun q hq=> ?_⟩,fun q hq=> ?_,Lst.nil _ _,by omega,?_,ZC⟩
  ·have:=hM3.below f4.below
   rwa [show mE ([]:List (SK×Value)) (0,none) (jC 0 0 0)= [((0,none),jC 0 0 0)] from by unfold mE; rw [if_neg (by simp)]; rfl] at this
  ·have e:g4=q:=by simpa [Value.ownBlock] using hq
   have:=f4.at_;omega
  ·have e:g4=q:=by simpa [Value.ownBlock] using hq
   have:=f4.blk.lt;omega
  ·have:=f4.below.size;omega
 refine aj rfl (((hS.step hbelow4).s.blk.fld rfl)) ?_;refine ag ?_;refine aJ [0,5,32] (fun x:Nat×List (SK×Value)×Value×List SK=> [(6,none,x.2.2.1),(33,none,.int .i64 (x.1:Int))])
  (fun x W=>x.1<=us.length/\FM w W bm x.2.1 x.2.2.1 x.2.2.2 W.heap.size (.slice none 0 0) []/\Lev d us x.1 x.2.1 x.2.2.2/\(Feas d (none,0) us->Go.Ord.Good d us x.2.1 x.2.2.2)) (fun x=>us.length-x.1) (0,[((0,none),jC 0 0 0)],.slice (some ⟨g4,0,none⟩) 1 1,[(0,none)]) ⟨ZB,hFM0,Lev.start us,fun h=>⟨(0,none),by simp,0,0,0,by simp,by rw [lu]; exact h⟩⟩ ?_
 rintro ⟨c,M,lvv,lv⟩ W ⟨hc,hFM,hLev,hgood⟩;dsimp only at hc hFM hLev hgood;refine ag ?_;refine aI [0,5,6,32,33,34] rfl ?_;refine ai rfl (fun hlt=> ?_) (fun hge=> ?_)
 ·have hcl:c<us.length:=by omega
  obtain ⟨LA,lcap,rfl⟩:=hFM.lvl.form;have hbig:=hFM.lvl.big;refine ag ?_;refine aJ [0,5,32,33,35,36] (fun x:Nat×List (SK×Value)×Value×List SK=> [(7,none,x.2.2.1),(37,none,.int .i64 (x.1:Int))])
   (fun x W'=>x.1<=lv.length/\FM w W' bm x.2.1 (.slice LA lv.length lcap) lv W.heap.size x.2.2.1 x.2.2.2/\Lev d us (c+1) x.2.1 x.2.2.2/\Had us c x.2.1 lv/\(Feas d (none,0) us->Go.Ord.Good d us x.2.1 (lv.drop x.1)∨Go.Ord.Good d us x.2.1 x.2.2.2)) (fun x=>lv.length-x.1) (0,M,.slice none 0 0,[]) ⟨ZB,hFM,hLev.next,hLev.mem,fun h=> .inl (hgood h)⟩ ?_
  rintro ⟨j,M',nxv,nx⟩ W' ⟨hj,hFM',hLev',hHad,hgood'⟩;dsimp only at hj hFM' hLev' hHad hgood';refine ag ?_;refine ai rfl (fun hlt2=> ?_) (fun hge2=> ?_)
  ·have hjl:j<lv.length:=by omega
   obtain ⟨r,hr⟩: ∃r,lv[j]?=some r:=⟨lv[j],ZD hjl⟩;obtain ⟨ga,rfl,hcells⟩:=hFM'.lvl.get hr;refine ag ?_;refine aF rfl (hcells) ?_;refine aM rfl mF rfl is156.q rfl rfl ?_;rintro g9 w9 f9;refine ag ?_;have hFM9:=hFM'.step f9.below;have hB9:Blk w9 g9 156 (IY r):=f9.blk;refine aF rfl (fun _ _ h=>hB9.fld h) ?_;refine mf oq r rfl rfl underlying227 On rfl rfl hFM9.map ?_;rintro ov hov;obtain ⟨⟨v0,hv0⟩,hcnt⟩:=hHad r (ZF hr);obtain ⟨t,u0,fo,n0,hv0e,_,hway,_,ht0,ht1,hk,_,hfo⟩:=hLev'.rows _ hv0;dsimp only at hv0e hway hk;have hn0:n0=c:=by have:=hway.cnt; unfold I5 at this hcnt; omega
   subst hn0;have hove:ov=jC t u0 fo:=by
    rcases hov with hov|⟨hov,_⟩
    ·rw [wO hFM9.map.once hov hv0,hv0e]
    ·exact absurd rfl (hov _ hv0)
   subst hove;refine aT (J6 (v:= .int .i64 t)) rfl ⟨ct,trivial⟩ (fun _=>by kernel_rfl) ?_;refine ag ?_;have hsok:qT d (r.2,t):=hway.sok hu;have hS9:=hS.step hFM9.bel;refine aF rfl (fun _ _ h=>hB9.fld h) ?_;refine ag ?_;refine aA rfl (vW (k:=r.1) (s:=(r.2,t)) hwd hS9 hn h16 (Nat.lt_trans hk (by decide)) hsok ⟨ht0,ht1⟩) ?_;rintro y10 w10 ⟨hb10,L,hL,hcho⟩;obtain ⟨CA,ccap,rfl,_⟩:=hL.form;have hLbig:=hL.big;have hFM10:=hFM9.step hb10;have hB10:=hB9.next hb10;refine ag ?_;refine aI [0,5,7,9,10,32,33,35,36,37,48,49,50] rfl ?_;refine aJ [0,5,9,10,32,33,35,36,37,48,49] (fun x:Nat×List (SK×Value)×Value×List SK=> [(7,none,x.2.2.1),(50,none,.int .i64 (x.1:Int))])
    (fun x W3=>x.1<=L.length/\FM w W3 bm x.2.1 (.slice (some ⟨ga,0,none⟩) lv.length lcap) lv W.heap.size x.2.2.1 x.2.2.2/\Lev d us (n0+1) x.2.1 x.2.2.2/\Had us n0 x.2.1 lv/\Nums W3 0 (.slice CA L.length ccap) L/\(∀q,(Value.slice CA L.length ccap).ownBlock=some q->x.2.2.1.ownBlock≠some q/\bm<q)/\Blk W3 g9 156 (IY r)/\x.2.2.1.ownBlock≠some g9 /\
     (Feas d (none,0) us->Go.Ord.Good d us x.2.1 (lv.drop (j+1))∨Go.Ord.Good d us x.2.1 x.2.2.2∨ ∃y∈L.drop x.1,∃u,us[y]?=some u/\Feas d (nxt d (r.2,t) u) (left us (r.1 ||| 1 <<< y)))) (fun x=>L.length-x.1) (0,M',nxv,nx) ⟨ZB,hFM10,hLev',hHad,?_,fun q hq=>⟨fun e=> ?_,?_⟩,hB10,fun e=> ?_,fun h=> ?_⟩ ?_
   ·obtain ⟨n,a1,a2,a3⟩:=hL;exact ⟨n,a1,a2,fun _ _=>ZB⟩
   ·obtain ⟨n,a1,a2,a3⟩:=hL;have:=a3 q hq;have:=hFM9.nxt.lt e;omega
   ·obtain ⟨n,a1,a2,a3⟩:=hL;have:=a3 q hq;have:=hFM9.map.lt;omega
   ·have:=hFM'.nxt.lt e;have:=f9.at_;omega
   ·rcases hgood' h with ⟨q,hq,t',u',f',hm,hf⟩|h'
    ·rw [List.drop_eq_getElem_cons hjl] at hq;have hrj:lv[j]=r:=by rw [ZD hjl] at hr; simpa using hr
     rcases List.mem_cons.1 hq with rfl|hq
     ·rw [hrj] at hm hf;have e1:=wO hFM9.map.once hm hv0;rw [hv0e] at e1;have e2:=xG e1;subst e2;exact .inr (.inr (by rw [List.drop_zero]; exact Cho.feas hwd hu hS.small hF hF2 hsok hcho hf hcnt hcl))
     ·exact .inl ⟨q,hq,t',u',f',hm,hf⟩
    ·exact .inr (.inl h')
   rintro ⟨i,M3,nxv3,nx3⟩ W3 ⟨hi,hFM3,hLev3,hHad3,hL3,hdis,hB3',hdis9,hgood3⟩;dsimp only at hi hFM3 hLev3 hHad3 hL3 hdis hB3' hdis9 hgood3;refine ag ?_;refine ai rfl (fun hlt3=> ?_) (fun hge3=> ?_)
   ·have hil:i<L.length:=by omega
    obtain ⟨y,hy⟩: ∃y,L[i]?=some y:=⟨L[i],ZD hil⟩;obtain ⟨gc,rfl,hci⟩:=hL3.get hy;obtain ⟨u,huy,hbit,hcan⟩:=hcho.mem (ZF hy);have hyl:y<us.length:=(ZE huy).1;have nu:=hn u (ZF huy);have hS3:=hS.step hFM3.bel;refine ag ?_;refine aj rfl hci ?_;refine ag ?_;refine aF rfl (fun _ _ h=>hB3'.fld h) ?_;refine ag ?_;refine aA rfl (nU (k:=r.1) (o:=eU r.2) hS3.s huy (Nat.lt_trans hk (by decide)) (by omega)) ?_;rintro y4 w11 ⟨hb11,rfl⟩;refine aM rfl mF rfl is156.q rfl rfl ?_;rintro g13 w13 f13;refine ag ?_;refine bg mixed (by kernel_rfl) ?_;refine aZ ?_;have hFM13:=(hFM3.step hb11).step f13.below;have hS13:=hS.step hFM13.bel;have hB13:Blk w13 g9 156 (IY r):=(hB3'.next hb11).next f13.below;obtain ⟨ua,rfl⟩:=hS.s.units.addr (by omega);obtain ⟨v1,hc1,hv1⟩:=jS hS13.s.units huy;obtain ⟨tt,x,kw,ke,ks,kr,rfl,mw,me,ms,mr,cw,ce,cs,cr⟩:=hv1;have hbI:eQ d (r.2,t) u=kW d (r.2,t) u:=by unfold eQ; rw [ay hcan,if_pos rfl]
    have hbr:=lG (s:=(r.2,t)) nu;have hbn:=(iE (s:=(r.2,t)) nu).2 hcan;have hsp:=nu.span;refine dx rfl (fun _ _ h=>hB13.fld h) ?_;refine aZ ?_;refine fE (.ex (.int .i64 (eQ d (r.2,t) u))) trivial rfl (fun _ w' hb'=>jK (k:=r.1) (s:=(r.2,t)) hwd (hS13.step hb').s huy nu hsok ⟨show -1<=t by omega,ht1⟩) ?_;refine aZ ?_;refine bL bO rfl ⟨ct,trivial⟩ (fun _=>trivial) ?_;refine aZ ?_;refine aB rfl (hS13.s.blk.fld rfl) ?_;refine aZ ?_;refine aB rfl hc1 ?_;refine jQ (.ex (.int .i64 u.span)) trivial rfl rfl (ms) rfl ct aP (fun _ w' _=>cs w') ?_;refine aZ ?_;refine bR [0,5,7,9,10,12,13,14,32,33,35,36,37,48,49,50] rfl fun w14 hb14=> ?_;refine ag ?_;have hFM14:=hFM13.step hb14;have hB14:=hB13.next hb14;have hR14:Blk w14 g13 156 (IY (r.1 ||| 1 <<< y,some u.exit)):=f13.blk.next hb14;have hL14:=(((hL3.below hb11).below f13.below).below hb14);refine aF rfl (fun _ _ h=>hR14.fld h) ?_;have hway':Go.Ord.Way d us (r.1 ||| 1 <<< y) (some u.exit,eQ d (r.2,t) u+u.span) (n0+1):=by
     have:=hway.step huy hbit hcan;rw [hbI]; exact this
    have hp16:r.1 ||| 1 <<< y<2 ^ 16:=Nat.or_lt_two_pow hk (by rw [Nat.one_shiftLeft]; exact Nat.pow_lt_pow_right (by decide) (by omega));have hnx13: ∀q,nxv3.ownBlock=some q->q<w13.heap.size-1:=fun q hq=>by
     have:=hFM3.nxt.lt hq;have:=hb11.size;have:=f13.size;have:=f13.at_;omega
    have hyd:L.drop i=y::L.drop (i+1):=by
     rw [List.drop_eq_getElem_cons hil];rw [ZD hil] at hy;simp only [Option.some.injEq] at hy;rw [hy]
    have hnr: ∀q,nxv3.ownBlock=some q->q<g13:=fun q hq=>by
     have:=hFM3.nxt.lt hq;have:=hb11.size;have:=f13.at_;omega
    have htv:0<=eQ d (r.2,t) u+u.span/\eQ d (r.2,t) u+u.span<=3000000:=by omega
    have hg9lt:=hB3'.lt;refine BM oq (r.1 ||| 1 <<< y,some u.exit) rfl rfl underlying227 On rfl rfl hFM14.map (fun hov'=> ?_) (fun v2 hov'=> ?_)
    ·skip
     refine ag ?_;refine aM rfl EP rfl is226.q rfl rfl ?_;rintro g15 w15 f15;refine ag ?_;refine aI [0,5,7,9,10,12,13,14,15,16,32,33,35,36,37,48,49,50,79] rfl ?_;have hFM15:=hFM14.step f15.below;have hR15:=hR14.next f15.below;have hB15:=hB14.next f15.below;have hL15:=hL14.below f15.below;refine au rfl (fun hc1'=> ?_) (fun hc2'=> ?_)
     ·refine ag ?_;refine aF rfl (fun _ _ h=>hR15.fld h) ?_;refine ak 156 _ rfl rfl rfl KD (aa rfl ct ah) rfl rfl rfl rfl rfl ?_;rintro g16 w16 f16;have hFM16:=hFM15.step f16.below;have hR16:=hR15.next f16.below;have hB16:=hB15.next f16.below;have hL16:=hL15.below f16.below;obtain ⟨n,hnl,hown,hvg⟩:=id hFM16.nxt;have hfew:=hLev3.few hwd hu;refine aK (IY (r.1 ||| 1 <<< y,some u.exit)) rfl rfl Ns rfl hown rfl rfl (fun j v hj=>⟨⟨g16,0,none⟩,rfl,f16.blk.fld hj⟩) (fun v hv=>by simp [IY] at hv; rcases hv with rfl|rfl<;>rfl) (by omega) (by omega) ?_;rintro nxv' w17 hown17 hg17 hnew17;have hR17:=Blk.keptO hR16 hg17 (fun e=>by have:=hnr _ e; omega);have hB17:=Blk.keptO hB16 hg17 hdis9;have hL17:=hL16.keptO hg17 (fun q hq=>(hdis q hq).1);have hFM17:=hFM16.app hg17 (nxv':=nxv') (nx':=nx3++ [(r.1 ||| 1 <<< y,some u.exit)]) ⟨n+1,by simp [hnl],by rw [List.flatMap_append]; simpa using hown17,fun q hq=>by
       rcases hnew17 with h|h
       ·exact hvg q (by rw [<-h]; exact hq)
       ·rw [h] at hq; cases hq; exact hFM16.b2s⟩
      refine aT df rfl ⟨ct,trivial⟩ (fun _=>trivial) ?_;refine bG (aS [0,5,7,9,10,12,13,14,15,16,32,33,35,36,37,48,49,50] [(0,_,_),(5,_,_),(7,_,_),(9,_,_),(10,_,_),(12,_,_),(13,_,_),(14,_,_),(15,_,_),(16,_,_),(32,_,_),(33,_,_),(35,_,_),(36,_,_),(37,_,_),(48,_,_),(49,_,_),(50,_,_)] rfl (aD ?_));refine cO (bE ?_);refine aT aX rfl ⟨ct,trivial⟩ (fun _=>trivial) ?_;refine aT wo rfl ⟨ct,trivial⟩ (fun _=>trivial) ?_;refine aT aX rfl ⟨ct,trivial⟩ (fun _=>trivial) ?_;refine bT (.bool false) rfl (by simp [aV]) rfl ?_;refine bT (.bool false) rfl (by simp [aV]) rfl ?_;refine bT (.bool false) rfl (by simp [aV]) rfl ?_;refine bT (.bool false) rfl (by simp [aV]) rfl ?_;refine ag ?_;refine aI [0,5,7,9,10,12,13,14,15,16,32,33,35,36,37,48,49,50,91] rfl ?_;refine au rfl (fun hc3'=> ?_) (fun hc4'=> ?_)
      ·refine ag ?_;refine aF rfl (fun _ _ h=>hR17.fld h) ?_;refine ag ?_;refine aj rfl (hB17.fld rfl) ?_;refine aH [0,1,2] [.tmp 94,.tmp 95,.tmp 97] [.int .i64 (eQ d (r.2,t) u+u.span),.int .i64 (y:Int),.int .i64 (eU r.2)] rfl rfl rfl (aa rfl ct (aa rfl ct (aa rfl ct ah))) (by kernel_rfl) ?_;refine fV oq (r.1 ||| 1 <<< y,some u.exit) (vz:=jC (eQ d (r.2,t) u+u.span) y (eU r.2)) rfl underlying227 rfl rfl rfl hFM17.map ?_;rintro w18 hs18 hbut18 hM18;refine ag ?_;have hq16: ∀q,(Value.slice (some ⟨gc,0,none⟩) L.length ccap).ownBlock=some q->q<w16.heap.size:=fun q hq=>hL16.lt hq;refine aC (i+1,mE M3 (r.1 ||| 1 <<< y,some u.exit) (jC (eQ d (r.2,t) u+u.span) y (eU r.2)),nxv',nx3++ [(r.1 ||| 1 <<< y,some u.exit)]) ⟨by show i+1<=L.length; omega,hFM17.put hs18 hbut18 hM18,hLev3.put hway' htv hp16 hyl (Cr _) ?_ (fun q=>by simp),hHad3.put _ _,hL17.keptO hbut18 (fun q hq e=>by cases e; have:=(hdis _ hq).2; omega),fun q hq=>⟨fun e=> ?_,(hdis q hq).2⟩,hbut18.blk hB17 (fun e=> ?_),fun e=> ?_,fun h=> ?_⟩
       ·refine List.nodup_append.2 ⟨hLev3.nd,by simp,fun a ha b hb e=> ?_⟩;rw [List.mem_singleton] at hb;subst hb;subst e;obtain ⟨⟨v,hv⟩,_⟩:=hLev3.mem _ ha;exact hov' _ hv rfl
       ·rcases hnew17 with h|h
        ·exact (hdis q hq).1 (by rw [<-h]; exact e)
        ·rw [h] at e; cases e; have:=hq16 _ hq; omega
       ·have:=hFM'.map.lt;have:=f9.at_;omega
       ·rcases hnew17 with h|h
        ·exact hdis9 (by rw [<-h]; exact e)
        ·rw [h] at e; cases e; have:=hB16.lt; omega
       ·have habs: ∀t' u' f',((r.1 ||| 1 <<< y,some u.exit),jC t' u' f')∈M3->eQ d (r.2,t) u+u.span<=t':=fun t' u' f' hm=>absurd rfl (hov' _ hm);rcases hgood3 h with h'|h'|⟨z,hz,u',hu',hf'⟩
        ·exact .inl (h'.put hu hFM14.map.once habs)
        ·exact .inr (.inl ((h'.put hu hFM14.map.once habs).more (fun q hq=>by simp [hq])))
        ·rw [hyd] at hz;rcases List.mem_cons.1 hz with rfl|hz
         ·rw [huy] at hu'; cases hu';refine .inr (.inl ⟨_,List.mem_append_right _ (List.mem_singleton.2 rfl),_,_,_,mem_lput.2 (.inl rfl),?_⟩);rw [hbI]; exact hf'
         ·exact .inr (.inr ⟨z,hz,u',hu',hf'⟩)
      ·exact absurd hc4' (by simp)
     ·exact absurd hc2' (by simp)
    ·obtain ⟨t2,u2,f2,n2,hv2,_,hw2',_,ht20,ht21,_⟩:=hLev3.rows _ hov';dsimp only at hv2;subst hv2;have hth:(r.1 ||| 1 <<< y,some u.exit)∈nx3:=hLev3.there hov' hway'.cnt;have honly: ∀t' u' f',((r.1 ||| 1 <<< y,some u.exit),jC t' u' f')∈M3->t'=t2:=fun t' u' f' hm=>xG (wO hFM14.map.once hm hov');refine ag ?_;refine aM rfl EP rfl is226.q rfl rfl ?_;rintro g15 w15 f15;refine ag ?_;refine aI [0,5,7,9,10,12,13,14,15,16,32,33,35,36,37,48,49,50,79] rfl ?_;have hFM15:=hFM14.step f15.below;have hR15:=hR14.next f15.below;have hB15:=hB14.next f15.below;have hL15:=hL14.below f15.below;refine au rfl (fun hc1'=> ?_) (fun hc2'=> ?_)
     ·exact absurd hc1' (by simp)
     ·refine ag ?_;refine aj rfl (f15.blk.fld rfl) ?_;refine ag ?_;refine au rfl (fun hc3'=> ?_) (fun hc4'=> ?_)
      ·refine ag ?_;refine aF rfl (fun _ _ h=>hR15.fld h) ?_;refine ag ?_;refine aj rfl (hB15.fld rfl) ?_;refine aH [0,1,2] [.tmp 94,.tmp 95,.tmp 97] [.int .i64 (eQ d (r.2,t) u+u.span),.int .i64 (y:Int),.int .i64 (eU r.2)] rfl rfl rfl (aa rfl ct (aa rfl ct (aa rfl ct ah))) (by kernel_rfl) ?_;refine fV oq (r.1 ||| 1 <<< y,some u.exit) (vz:=jC (eQ d (r.2,t) u+u.span) y (eU r.2)) rfl underlying227 rfl rfl rfl hFM15.map ?_;rintro w18 hs18 hbut18 hM18;refine ag ?_;have hless:eQ d (r.2,t) u+u.span<t2:=by simpa using hc3'
       have hle: ∀t' u' f',((r.1 ||| 1 <<< y,some u.exit),jC t' u' f')∈M3->eQ d (r.2,t) u+u.span<=t':=fun t' u' f' hm=>by have:=honly t' u' f' hm; omega
       refine aC (i+1,mE M3 (r.1 ||| 1 <<< y,some u.exit) (jC (eQ d (r.2,t) u+u.span) y (eU r.2)),nxv3,nx3) ⟨by show i+1<=L.length; omega,hFM15.put hs18 hbut18 hM18,hLev3.put hway' htv hp16 hyl (Cr _) hLev3.nd (fun q=>⟨.inl,fun h=>h.elim id (fun e=>e ▸ hth)⟩),hHad3.put _ _,hL15.keptO hbut18 (fun q hq e=>by cases e; have:=(hdis _ hq).2; omega),hdis,hbut18.blk hB15 (fun e=> ?_),hdis9,fun h=> ?_⟩
       ·have:=hFM'.map.lt;have:=f9.at_;omega
       ·rcases hgood3 h with h'|h'|⟨z,hz,u',hu',hf'⟩
        ·exact .inl (h'.put hu hFM14.map.once hle)
        ·exact .inr (.inl (h'.put hu hFM14.map.once hle))
        ·rw [hyd] at hz;rcases List.mem_cons.1 hz with rfl|hz
         ·rw [huy] at hu'; cases hu';refine .inr (.inl ⟨_,hth,_,_,_,mem_lput.2 (.inl rfl),?_⟩);rw [hbI]; exact hf'
         ·exact .inr (.inr ⟨z,hz,u',hu',hf'⟩)
      ·refine ag ?_;have hmore:t2<=eQ d (r.2,t) u+u.span:=by simpa using hc4'
       refine aC (i+1,M3,nxv3,nx3) ⟨by show i+1<=L.length; omega,hFM15,hLev3,hHad3,hL15,hdis,hB15,hdis9,fun h=> ?_⟩;rcases hgood3 h with h'|h'|⟨z,hz,u',hu',hf'⟩
       ·exact .inl h'
       ·exact .inr (.inl h')
       ·rw [hyd] at hz;rcases List.mem_cons.1 hz with rfl|hz
        ·rw [huy] at hu'; cases hu';refine .inr (.inl ⟨_,hth,_,_,_,hov',Feas.better (jv hmore) (fun x hx=> ?_) ?_⟩)
         ·obtain ⟨q,_,hq⟩:=Go.Ord.mem_left.1 hx;exact hu x (ZF hq)
         ·rw [hbI]; exact hf'
        ·exact .inr (.inr ⟨z,hz,u',hu',hf'⟩)
   ·refine ag ?_;have hie:i=L.length:=by omega
    refine aC (j+1,M3,nxv3,nx3) ⟨by show j+1<=lv.length; omega,hFM3,hLev3,hHad3,fun h=> ?_⟩;rcases hgood3 h with h'|h'|⟨z,hz,_⟩
    ·exact .inl h'
    ·exact .inr h'
    ·rw [hie,List.drop_length] at hz; cases hz
  ·refine ag ?_;have hje:j=lv.length:=by omega
   refine aC (c+1,M',nxv,nx) ⟨by show c+1<=us.length; omega,⟨hFM'.bel,hFM'.map,hFM'.nxt.less (by have:=hFM'.bb; omega),fun q hq=>hFM'.nxt.lt hq,Lst.nil _ _,hFM'.b0,hFM'.map.lt,ZC⟩,hLev',fun h=> ?_⟩;rcases hgood' h with ⟨q,hq,_⟩|h'
   ·rw [hje,List.drop_length] at hq; cases hq
   ·exact h'
 ·have hce:c=us.length:=by omega
  subst hce;obtain ⟨LA,lcap,rfl⟩:=hFM.lvl.form;refine ag ?_;refine ai rfl (fun hz=> ?_) (fun hnz=> ?_)
  ·refine ag ?_;refine jH rfl ⟨hFM.bel,.inl ⟨rfl,fun h=> ?_⟩⟩;obtain ⟨q,hq,_⟩:=hgood h;have:lv= []:=List.eq_nil_of_length_eq_zero (by omega);rw [this] at hq; cases hq
  have hlp:0<lv.length:=by omega
  obtain ⟨r,hr⟩: ∃r,lv[0]?=some r:=⟨lv[0],ZD hlp⟩;obtain ⟨ga,rfl,hcells⟩:=hFM.lvl.get hr;obtain ⟨⟨v0,hv0⟩,hcnt⟩:=hLev.mem r (ZF hr);obtain ⟨t,u0,fo,n0,hv0e,_,hway,_,ht0,ht1,hk,_,hfo⟩:=hLev.rows _ hv0;dsimp only at hway hk;have hfeas:Feas d (none,0) us:=by
   have hn0:n0=us.length:=by have:=hway.cnt; unfold I5 at this hcnt; omega
   subst hn0;exact hway.feas
  have hSW:=hS.step hFM.bel;refine ag ?_;refine aT bO rfl ⟨ct,trivial⟩ (fun _=>trivial) ?_;refine ag ?_;refine aj rfl (hSW.s.blk.fld rfl) ?_;refine ag ?_;refine bI rfl rfl (dH lF EO rfl) rfl rfl (by omega) (by omega) ?_;rintro g17 w17 f17;refine ag ?_;refine aI [0,5,6,17,32,33] rfl ?_;refine dE mixed fun W28 hb28=> ?_;refine dL .weak 11 (by kernel_rfl) (by kernel_rfl) rfl rfl hb28 ?_;refine aZ ?_;refine bL bO rfl ⟨ct,trivial⟩ (fun _=>trivial) ?_;refine aZ ?_;have hS17:=hSW.step f17.below;have hFM17:=hFM.step f17.below;obtain ⟨gb,hgb,hcells17⟩:=hFM17.lvl.get hr;cases hgb;refine aB rfl (hS17.s.blk.fld rfl) ?_;refine aZ ?_;refine dx rfl (hcells17) ?_;refine qV rfl mF ?_;refine aZ ?_;refine dD (qw [5,17,18,19,120] rfl fun vs w28 hb28' hs28=>ek ?_);obtain ⟨v5,v17,v18,v19,v120,rfl,h5,h17,h18,h19,h120⟩:=wz hs28;cases h5;cases h17;cases h18;cases h120;obtain ⟨g19,rfl,hg19,hB19⟩:=h19;refine bV (by kernel_rfl) (by kernel_rfl) rfl ?_;refine aQ rfl rfl rfl hB19 is156.q rfl rfl rfl ?_;rintro w29 hB29 hg29 hsz29;refine bG (aS [5,17,18,19] [(5,_,_),(17,_,_),(18,_,_),(19,_,_)] rfl (dJ ?_));refine ed rfl (aS [5,17,18,19] [(5,_,_),(17,_,_),(18,_,_),(19,_,_)] rfl (aD ?_));refine fU ?_
  have hbel28:Below w.heap.size w w28:=(hFM17.bel).step hb28';have hw17:w.heap.size<=w17.heap.size:=hFM17.bel.size;have hg17:w.heap.size<=g17:=by have:=f17.at_; have:=hFM.bel.size; omega
  have hg17':g17<w17.heap.size:=f17.blk.lt;have hbm17:bm<g17:=by have:=f17.at_; have:=hFM.map.lt; omega
  have hb0:=hFM.b0;have hbel29:Below w.heap.size w w29:=hbel28.grown hg29 hbel28.size (fun q hq=>by cases hq; omega);refine aJ [5,17] (fun x:Nat×Nat=> [(18,none,.int .i64 ((x.1:Int)-1)),(19,none,.pointer (some ⟨x.2,0,none⟩))])
   (fun x W3=>x.1<=us.length/\Below w.heap.size w W3/\MapL oq W3 bm M/\g17<W3.heap.size/\g17<x.2/\(∃xs:List Nat,xs.length=us.length/\(∀y∈xs,y<us.length∨y=0)/\Blk W3 g17 3 (xs.map fun y:Nat=>Value.int .i64 (y:Int)))/\ ∃q:SK,q.1<2 ^ 32/\Blk W3 x.2 156 (IY q)) (fun x=>x.1) (us.length,g19) ⟨ZC,hbel29,(hFM17.map.below hb28').but hg29 (by omega),?_,by show g17<g19; omega,⟨List.replicate us.length 0,by simp,fun y hy=> .inr (List.eq_of_mem_replicate hy),?_⟩,r,Nat.lt_trans hk (by decide),hB29⟩ ?_
  ·have:=hb28'.size;show g17<w29.heap.size;omega
  ·have:=But.blk (k:=g17) hg29 (f17.blk.next hb28') (by omega);simpa using this
  rintro ⟨x,gx⟩ W3 ⟨hx,hB3,hM3,hg17w,hgx,⟨xs,hxl,hxb,hBx⟩,q,hqk,hBq⟩;dsimp only at hx hB3 hM3 hg17w hgx hxl hBx hBq;have hbw3:=hB3.size;refine ag ?_;refine aI [5,17,18,19,122] rfl ?_;refine ai rfl (fun hge1=> ?_) (fun hlt1=> ?_)
  ·have hx1:1<=x:=by omega
   refine ag ?_;refine aF rfl (fun _ _ h=>hBq.fld h) ?_;refine mf oq q rfl rfl underlying227 On rfl rfl hM3 ?_;rintro ov hov;obtain ⟨t4,u4,f4',hov4,hu4,hf4⟩: ∃(t4:Int) (u4:Nat) (f4:Int),ov=jC t4 u4 f4/\(u4<us.length∨u4=0)/\ -1<=f4:=by
    rcases hov with h|⟨_,rfl⟩
    ·obtain ⟨t4,u4,f4,n4,e1,e2,_,_,_,_,_,_,e3⟩:=hLev.rows _ h;exact ⟨t4,u4,f4,e1,e2,e3⟩
    ·exact ⟨0,0,0,rfl,.inr rfl,by decide⟩
   subst hov4;obtain ⟨o4,rfl⟩:=JB hf4;refine aM rfl EP rfl is226.q rfl rfl ?_;rintro g20 w20 f20;refine ag ?_;have hB20:Blk w20 g20 226 [.int .i64 t4,.int .i64 (u4:Int),.int .i64 (eU o4)]:=f20.blk;have hBx20:=hBx.next f20.below;have hBq20:=hBq.next f20.below;refine aj rfl (hB20.fld rfl) ?_;refine ag ?_;refine bi rfl is3.q rfl rfl hBx20 (by simp; omega) rfl ?_;rintro w21 hB21 hbut21 hsz21;have hne20:g20≠g17:=by have:=f20.at_; omega
   have hB20':=hbut21.blk hB20 hne20;have hBq21:=hbut21.blk hBq20 (by omega);have hM21:=(hM3.below f20.below).but hbut21 (by omega);have hb21:Below w.heap.size w w21:=(hB3.step f20.below).grown hbut21 (hB3.step f20.below).size (fun q hq=>by cases hq; omega);refine ag ?_;refine dE mixed fun W33 hb33=> ?_;refine dL .weak 9 (by kernel_rfl) (by kernel_rfl) rfl rfl hb33 ?_;refine aZ ?_;refine aB rfl (hBq21.fld rfl) ?_;refine aZ ?_;refine aB rfl (hB20'.fld rfl) ?_;refine bL qd rfl ⟨ct,ct,trivial⟩ (fun _=>by omega) ?_;refine bL uA rfl ⟨ct,ct,trivial⟩ (fun _=>trivial) ?_;refine aZ ?_;refine aB rfl (hB20'.fld rfl) ?_;refine jA [0,1] [.tmp 138,.tmp 140] [.int .u32 ((nk q.1 (1 <<< u4):Nat):Int),.int .i64 (eU o4)] rfl rfl rfl rfl (ax rfl ct (ax rfl ct aP)) (by kernel_rfl) ?_;refine dD (iv [5,17,18,19,20,141] [(5,_,_),(17,_,_),(18,_,_),(19,_,_),(20,_,_),(141,_,_)] rfl (fun w22 hb22=>ek ?_));refine bV (by kernel_rfl) (by kernel_rfl) rfl ?_;have hBq22:=hBq21.next hb22;refine aQ rfl rfl rfl hBq22 is156.q rfl rfl rfl ?_;rintro w23 hBq23 hg23 hsz23;refine bG (aS [5,17,18,19,20] [(5,_,_),(17,_,_),(18,_,_),(19,_,_),(20,_,_)] rfl (dJ ?_))
   refine ed rfl (aS [5,17,18,19,20] [(5,_,_),(17,_,_),(18,_,_),(19,_,_),(20,_,_)] rfl (bP (aD ?_)));refine ag ?_;have hb22':=hb21.step hb22;have hb23:Below w.heap.size w w23:=hb22'.grown hg23 hb22'.size (fun q hq=>by cases hq; omega);refine aF rfl (fun _ _ h=>hBq23.fld h) ?_;refine ag ?_;refine jw [5,17,18,19,20,142] rfl ?_;refine aM rfl mF rfl is156.q rfl rfl ?_;rintro g24 w24 f24;refine ag ?_;have hs24:=f24.at_;have hs22:=hb22.size;have hs20:=f20.below.size;refine aC (x-1,g24) ⟨by show x-1<=us.length; omega,hb23.step f24.below,((hM21.below hb22).but hg23 (by omega)).below f24.below,?_,?_,⟨xs.set (((x:Int)-1).toNat) u4,by simp [hxl],fun y hy=> ?_,?_⟩,(nk q.1 (1 <<< u4),o4),CO _ _,f24.blk⟩ (hp:=by rw [show (((x-1:Nat):Int))=(x:Int)-1 by omega]; rfl)
   ·show g17<w24.heap.size;have:=f24.below.size;omega
   ·show g17<g24;omega
   ·rcases List.mem_or_eq_of_mem_set hy with h|rfl
    ·exact hxb y h
    ·exact hu4
   ·have h1:=((But.blk (k:=g17) hg23 (hB21.next hb22) (by show g17≠gx; omega)).next f24.below);rw [List.map_set];simpa using h1
  ·have hx0:x=0:=by omega
   refine ag ?_;refine jH rfl ⟨hB3,.inr ⟨_,xs,rfl,⟨xs.length,rfl,?_,fun q hq=> ?_⟩,fun y hy=> ?_,hfeas⟩⟩
   ·rw [hxl]; exact bu hBx (by simp [hxl]) (by omega)
   ·have e:g17=q:=by simpa [Value.ownBlock] using hq
    omega
   ·rcases hxb y hy with h|h
    ·exact h
    ·have:=List.length_pos_of_mem hy;omega
end Go.Proofs.YtobaafdejnimkaaGreatDoor
