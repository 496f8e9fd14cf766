/- Parts of this proof: Shelf. -/
import Derived.Shelf.Strings.Builder1
import Derived.Shelf.Strings.Builder2
import Derived.Shelf.Strings.OnBuilder
import Derived.Shelf.Strings.Trim
import Derived.Shelf.Small.Utf8
import Derived.Shelf.Small.Bits
import Derived.Shelf.Small.Strs
import Derived.Shelf.Small.Wraps
import Derived.Shelf.Strings.BuilderF
import Derived.Shelf.Strconv.Itoa0
import Derived.Shelf.Strconv.Itoa1
import Derived.Shelf.LaysM
import Derived.Shelf.Strconv.Itoa2
import Derived.Shelf.Strconv.Itoa3
import Derived.Ground.MpProg
import Derived.Shelf.Pu.ParseUintPublic10
import Derived.Shelf.Strings.Search1
import Derived.Shelf.Strings.Search2
import Derived.Shelf.Strings.Cut
import Derived.Shelf.Strings.Shaped
import Derived.Shelf.GgClosure.StringsIndexFunc
import Derived.Ground.GgwProg
import Derived.Shelf.GgClosure.StringsIndexFuncTop
import Derived.Shelf.GgClosure.StringsRunes
import Derived.Shelf.Strings.Prefix
import Derived.Shelf.Strings.Runes
import Derived.Shelf.Strings.AsciiSet
import Derived.Shelf.Bits.Mul64
import Derived.Shelf.Strings.Repeat
import Derived.Shelf.Unicode.DecodeSlow
import Derived.Shelf.Unicode.DecodeAny
import Derived.Shelf.Unicode.DecodeLast
import Derived.Ground.Names2Prog
import Derived.Shelf.Slices.ReverseS
import Derived.Shelf.Slices.Cells
import Derived.Ground.SlgnProg
import Derived.Shelf.SlicesE.Equal
import Derived.Shelf.SlicesE.Clone
import Derived.Ground.SlgfProg
import Derived.Shelf.SlicesE.IndexFunc
import Derived.Test.YtdefghfjhgmpfaaGreatDoorProg
namespace Go.Proofs
open Go.Shelf
def Tryz.lays156_ren:Go.Shelf.Ren:=⟨fun | 156=>139 | 165=>159 | 166=>160 | 169=>162 | 240=>183 | 241=>184 | 276=>205 | 277=>206 | n=>n,fun | 31=>152 | 9=>9 | 3=>3 | 4=>4 | 0=>0 | 20=>20 | 72=>207 | 76=>211 | 70=>205 | 37=>179 | 75=>210 | 127=>233 | 164=>249 | 5=>5 | 80=>155 | n=>n,fun | n=>n⟩
theorem Tryz.lays156:Go.Proofs.Lays.n156 Tryz.prog Tryz.lays156_ren:= {
 mixed:=by kernel_rfl
 f156:=Tryz.func139.trans (congrArg some (by kernel_rfl))
 f165:=Tryz.func159.trans (congrArg some (by kernel_rfl))
 f166:=Tryz.func160.trans (congrArg some (by kernel_rfl))
 f169:=Tryz.func162.trans (congrArg some (by kernel_rfl))
 f240:=Tryz.func183.trans (congrArg some (by kernel_rfl))
 f241:=Tryz.func184.trans (congrArg some (by kernel_rfl))
 f276:=Tryz.func205.trans (congrArg some (by kernel_rfl))
 f277:=Tryz.func206.trans (congrArg some (by kernel_rfl))
 t0:=Tryz.underlying0
 a0:=Tryz.isAgg0
 z0:=Tryz.sizeOf0
 v0:=Tryz.zeroValue0
 t3:=Tryz.underlying3
 a3:=Tryz.isAgg3
 z3:=Tryz.sizeOf3
 v3:=Tryz.zeroValue3
 t4:=Tryz.underlying4
 a4:=Tryz.isAgg4
 z4:=Tryz.sizeOf4
 v4:=Tryz.zeroValue4
 t9:=Tryz.underlying9
 a9:=Tryz.isAgg9
 z9:=Tryz.sizeOf9
 v9:=Tryz.zeroValue9
 t20:=Tryz.underlying20
 a20:=Tryz.isAgg20
 z20:=Tryz.sizeOf20
 v20:=Tryz.zeroValue20
 t31:=Tryz.underlying152
 a31:=Tryz.isAgg152
 z31:=Tryz.sizeOf152
 v31:=Tryz.zeroValue152
 t37:=Tryz.underlying179
 a37:=Tryz.isAgg179
 z37:=Tryz.sizeOf179
 v37:=Tryz.zeroValue179
 t70:=Tryz.underlying205
 a70:=Tryz.isAgg205
 z70:=Tryz.sizeOf205
 v70:=Tryz.zeroValue205
 t72:=Tryz.underlying207
 a72:=Tryz.isAgg207
 z72:=Tryz.sizeOf207
 v72:=Tryz.zeroValue207
 t75:=Tryz.underlying210
 a75:=Tryz.isAgg210
 z75:=Tryz.sizeOf210
 v75:=Tryz.zeroValue210
 t76:=Tryz.underlying211
 a76:=Tryz.isAgg211
 z76:=Tryz.sizeOf211
 v76:=Tryz.zeroValue211
 t127:=Tryz.underlying233
 a127:=Tryz.isAgg233
 z127:=Tryz.sizeOf233
 v127:=Tryz.zeroValue233
 t164:=Tryz.underlying249
 a164:=Tryz.isAgg249
 z164:=Tryz.sizeOf249
 v164:=Tryz.zeroValue249}
theorem Tryz.Builder_Extra_156:Builder.Extra Tryz.prog Tryz.lays156_ren:= {
 sizeBuilder:=by kernel_rfl
 liesBuilder:=by kernel_rfl
 t5:=Tryz.underlying5
 a5:=Tryz.isAgg5
 z5:=Tryz.sizeOf5
 v5:=Tryz.zeroValue5
 infoByte:=by kernel_rfl
 cellsByte:=by kernel_rfl
 sizeByte:=by kernel_rfl
 neB5:=by decide}
open Go.RowKit in
theorem Tryz.strings_Join(bk o c:Nat)(xs:List ByteArray)(sep:ByteArray)(w:World)(hcells:∀ (j:Nat) x,xs[j]? =some x -> w.cell? ⟨bk,o+j,none⟩=some (.string x))(hbk:bk<w.heap.size)(hN:xs.length <= 140737488355328)(hcap:xs.length <= c)(hlen:(Lib.join (xs.map (·.data.toList)) sep.data.toList).length <= 140737488355328):
  Calls Tryz.prog 139 #[.slice (some ⟨bk,o,none⟩) xs.length c, .string sep] w fun e w'=>e= .returned (.string ⟨(Lib.join (xs.map (·.data.toList)) sep.data.toList).toArray⟩) /\ Below w.heap.size w w':=Any.strings_Join Tryz.lays156 Tryz.Builder_Extra_156 bk o c xs sep w hcells hbk hN hcap hlen
def Tryz.lays133_ren:Go.Shelf.Ren:=⟨fun | 133=>196 | 128=>221 | n=>n,fun | 51=>160 | 3=>3 | 4=>4 | 46=>120 | 5=>5 | 9=>9 | n=>n,fun | n=>n⟩
theorem Tryz.lays133:Go.Proofs.Lays.n133 Tryz.prog Tryz.lays133_ren:= {
 mixed:=by kernel_rfl
 f128:=Tryz.func221.trans (congrArg some (by kernel_rfl))
 f133:=Tryz.func196.trans (congrArg some (by kernel_rfl))
 t3:=Tryz.underlying3
 a3:=Tryz.isAgg3
 z3:=Tryz.sizeOf3
 v3:=Tryz.zeroValue3
 t4:=Tryz.underlying4
 a4:=Tryz.isAgg4
 z4:=Tryz.sizeOf4
 v4:=Tryz.zeroValue4
 t5:=Tryz.underlying5
 a5:=Tryz.isAgg5
 z5:=Tryz.sizeOf5
 v5:=Tryz.zeroValue5
 t9:=Tryz.underlying9
 a9:=Tryz.isAgg9
 z9:=Tryz.sizeOf9
 v9:=Tryz.zeroValue9
 t46:=Tryz.underlying120
 a46:=Tryz.isAgg120
 z46:=Tryz.sizeOf120
 v46:=Tryz.zeroValue120
 t51:=Tryz.underlying160
 a51:=Tryz.isAgg160
 z51:=Tryz.sizeOf160
 v51:=Tryz.zeroValue160}
theorem Tryz.bits_LeadingZeros32(x:Int)(w:World)(h0:0 <= x)(h1:x <= 4294967295):
  Calls Tryz.prog 196 #[.int .u32 x] w fun e w'=>e= .returned (.int .i64 (32-(Lib.bitLen x.toNat:Int))) /\ w'=w:=Any.bits_LeadingZeros32 Tryz.lays133 x w h0 h1
def Tryz.lays103_ren:Go.Shelf.Ren:=⟨fun | 103=>173 | 210=>192 | 206=>182 | n=>n,fun | 9=>9 | 4=>4 | 24=>220 | 3=>3 | n=>n,fun | n=>n⟩
theorem Tryz.lays103:Go.Proofs.Lays.n103 Tryz.prog Tryz.lays103_ren:= {
 mixed:=by kernel_rfl
 f103:=Tryz.func173.trans (congrArg some (by kernel_rfl))
 f206:=Tryz.func182.trans (congrArg some (by kernel_rfl))
 f210:=Tryz.func192.trans (congrArg some (by kernel_rfl))
 t3:=Tryz.underlying3
 a3:=Tryz.isAgg3
 z3:=Tryz.sizeOf3
 v3:=Tryz.zeroValue3
 t4:=Tryz.underlying4
 a4:=Tryz.isAgg4
 z4:=Tryz.sizeOf4
 v4:=Tryz.zeroValue4
 t9:=Tryz.underlying9
 a9:=Tryz.isAgg9
 z9:=Tryz.sizeOf9
 v9:=Tryz.zeroValue9
 t24:=Tryz.underlying220
 a24:=Tryz.isAgg220
 z24:=Tryz.sizeOf220
 v24:=Tryz.zeroValue220}
open Go.RowKit in
theorem Tryz.strings_CutPrefix(s p:ByteArray)(w:World):
  Calls Tryz.prog 173 #[.string s, .string p] w fun e w'=>e= .returned (.tuple #[.string ⟨(Lib.trimPrefix s.data.toList p.data.toList).toArray⟩, .bool (Lib.hasPrefix s.data.toList p.data.toList)]) /\ w'=w:=Any.strings_CutPrefix Tryz.lays103 s p w
def Tryz.laysM171_ren:Go.Shelf.Ren:=⟨fun | 171=>136 | 243=>157 | 246=>181 | 283=>201 | 284=>202 | 285=>203 | 286=>204 | 129=>224 | 317=>223 | 318=>225 | 319=>226 | 320=>227 | 337=>234 | 338=>235 | n=>n,fun | 3=>3 | 9=>9 | 2=>2 | 4=>4 | 171=>244 | 0=>0 | 53=>163 | 37=>179 | 5=>5 | 173=>247 | 212=>261 | 51=>160 | 20=>20 | 213=>262 | 46=>120 | 232=>275 | 233=>276 | n=>n,fun | 17=>1 | 18=>6 | 19=>7 | n=>n⟩
theorem Tryz.laysM171:Go.Proofs.LaysM.n171 Tryz.prog Tryz.laysM171_ren:= {
 mixed:=by kernel_rfl
 f129:=Tryz.func224.trans (congrArg some (by kernel_rfl))
 f171:=Tryz.func136.trans (congrArg some (by kernel_rfl))
 f243:=Tryz.func157.trans (congrArg some (by kernel_rfl))
 f246:=Tryz.func181.trans (congrArg some (by kernel_rfl))
 f283:=Tryz.func201.trans (congrArg some (by kernel_rfl))
 f284:=Tryz.func202.trans (congrArg some (by kernel_rfl))
 f285:=Tryz.func203.trans (congrArg some (by kernel_rfl))
 f286:=Tryz.func204.trans (congrArg some (by kernel_rfl))
 f317:=Tryz.func223.trans (congrArg some (by kernel_rfl))
 f318:=Tryz.func225.trans (congrArg some (by kernel_rfl))
 f319:=Tryz.func226.trans (congrArg some (by kernel_rfl))
 f320:=Tryz.func227.trans (congrArg some (by kernel_rfl))
 f337:=Tryz.func234.trans (congrArg some (by kernel_rfl))
 f338:=Tryz.func235.trans (congrArg some (by kernel_rfl))
 t0:=Tryz.underlying0
 a0:=Tryz.isAgg0
 z0:=Tryz.sizeOf0
 v0:=Tryz.zeroValue0
 t2:=Tryz.underlying2
 a2:=Tryz.isAgg2
 z2:=Tryz.sizeOf2
 v2:=Tryz.zeroValue2
 t3:=Tryz.underlying3
 a3:=Tryz.isAgg3
 z3:=Tryz.sizeOf3
 v3:=Tryz.zeroValue3
 t4:=Tryz.underlying4
 a4:=Tryz.isAgg4
 z4:=Tryz.sizeOf4
 v4:=Tryz.zeroValue4
 t5:=Tryz.underlying5
 a5:=Tryz.isAgg5
 z5:=Tryz.sizeOf5
 v5:=Tryz.zeroValue5
 t9:=Tryz.underlying9
 a9:=Tryz.isAgg9
 z9:=Tryz.sizeOf9
 v9:=Tryz.zeroValue9
 t20:=Tryz.underlying20
 a20:=Tryz.isAgg20
 z20:=Tryz.sizeOf20
 v20:=Tryz.zeroValue20
 t37:=Tryz.underlying179
 a37:=Tryz.isAgg179
 z37:=Tryz.sizeOf179
 v37:=Tryz.zeroValue179
 t46:=Tryz.underlying120
 a46:=Tryz.isAgg120
 z46:=Tryz.sizeOf120
 v46:=Tryz.zeroValue120
 t51:=Tryz.underlying160
 a51:=Tryz.isAgg160
 z51:=Tryz.sizeOf160
 v51:=Tryz.zeroValue160
 t53:=Tryz.underlying163
 a53:=Tryz.isAgg163
 z53:=Tryz.sizeOf163
 v53:=Tryz.zeroValue163
 t171:=Tryz.underlying244
 a171:=Tryz.isAgg244
 z171:=Tryz.sizeOf244
 v171:=Tryz.zeroValue244
 t173:=Tryz.underlying247
 a173:=Tryz.isAgg247
 z173:=Tryz.sizeOf247
 v173:=Tryz.zeroValue247
 t212:=Tryz.underlying261
 a212:=Tryz.isAgg261
 z212:=Tryz.sizeOf261
 v212:=Tryz.zeroValue261
 t213:=Tryz.underlying262
 a213:=Tryz.isAgg262
 z213:=Tryz.sizeOf262
 t232:=Tryz.underlying275
 a232:=Tryz.isAgg275
 z232:=Tryz.sizeOf275
 v232:=Tryz.zeroValue275
 t233:=Tryz.underlying276
 a233:=Tryz.isAgg276
 z233:=Tryz.sizeOf276
 v233:=Tryz.zeroValue276
 g17:=by kernel_rfl
 g18:=by kernel_rfl
 g19:=by kernel_rfl
 i0:=by kernel_rfl
 i2:=by kernel_rfl
 i3:=by kernel_rfl
 i4:=by kernel_rfl
 i5:=by kernel_rfl
 i9:=by kernel_rfl
 i20:=by kernel_rfl
 i37:=by kernel_rfl
 i46:=by kernel_rfl
 i51:=by kernel_rfl
 i53:=by kernel_rfl
 i171:=by kernel_rfl
 i173:=by kernel_rfl
 i212:=by kernel_rfl
 i232:=by kernel_rfl
 i233:=by kernel_rfl
 m17:=by kernel_rfl
 m18:=by kernel_rfl
 m19:=by kernel_rfl}
open Go.RowKit Go.Sort Go.Lib in
theorem Tryz.strconv_Itoa(n:Int)(h0: -9223372036854775808 <= n)(h1:n <= 9223372036854775807)(w:World)(htab:Lib.TabIs Tryz.prog w "internal/strconv.uint64pow10" .u64 Lib.pow10Tab):
  Calls Tryz.prog 136 #[.int .i64 n] w fun e w'=>e= .returned (.string ⟨(Lib.itoa n).toArray⟩) /\ ∃k os,w'=grow (w.drewN k) os:=Any.strconv_Itoa Tryz.laysM171 n h0 h1 w htab
def Tryz.laysPu14_ren:Go.Shelf.Ren:=⟨fun | 14=>176 | 16=>194 | 17=>195 | 19=>215 | 20=>216 | 21=>217 | 22=>218 | 23=>219 | 24=>220 | 25=>232 | 27=>136 | 26=>233 | 28=>157 | 29=>181 | 30=>201 | 31=>202 | 32=>203 | 33=>204 | 35=>224 | 34=>223 | 36=>225 | 37=>226 | 38=>227 | 39=>234 | 40=>235 | n=>n,fun | 9=>9 | 3=>3 | 22=>163 | 24=>210 | 25=>224 | 4=>4 | 34=>255 | 5=>5 | 36=>120 | 37=>179 | 0=>0 | 39=>257 | 21=>21 | 44=>270 | 47=>233 | 50=>274 | 48=>272 | 2=>2 | 52=>244 | 55=>247 | 59=>261 | 60=>160 | 20=>20 | 61=>262 | 65=>275 | 66=>276 | 67=>155 | n=>n,fun | 0=>4 | 1=>5 | 2=>1 | 3=>6 | 4=>7 | n=>n⟩
theorem Tryz.laysPu14:Go.Proofs.LaysPu.n14 Tryz.prog Tryz.laysPu14_ren:= {
 mixed:=by kernel_rfl
 f14:=Tryz.func176.trans (congrArg some (by kernel_rfl))
 f16:=Tryz.func194.trans (congrArg some (by kernel_rfl))
 f17:=Tryz.func195.trans (congrArg some (by kernel_rfl))
 f19:=Tryz.func215.trans (congrArg some (by kernel_rfl))
 f20:=Tryz.func216.trans (congrArg some (by kernel_rfl))
 f21:=Tryz.func217.trans (congrArg some (by kernel_rfl))
 f22:=Tryz.func218.trans (congrArg some (by kernel_rfl))
 f23:=Tryz.func219.trans (congrArg some (by kernel_rfl))
 f24:=Tryz.func220.trans (congrArg some (by kernel_rfl))
 f25:=Tryz.func232.trans (congrArg some (by kernel_rfl))
 f26:=Tryz.func233.trans (congrArg some (by kernel_rfl))
 f27:=Tryz.func136.trans (congrArg some (by kernel_rfl))
 f28:=Tryz.func157.trans (congrArg some (by kernel_rfl))
 f29:=Tryz.func181.trans (congrArg some (by kernel_rfl))
 f30:=Tryz.func201.trans (congrArg some (by kernel_rfl))
 f31:=Tryz.func202.trans (congrArg some (by kernel_rfl))
 f32:=Tryz.func203.trans (congrArg some (by kernel_rfl))
 f33:=Tryz.func204.trans (congrArg some (by kernel_rfl))
 f34:=Tryz.func223.trans (congrArg some (by kernel_rfl))
 f35:=Tryz.func224.trans (congrArg some (by kernel_rfl))
 f36:=Tryz.func225.trans (congrArg some (by kernel_rfl))
 f37:=Tryz.func226.trans (congrArg some (by kernel_rfl))
 f38:=Tryz.func227.trans (congrArg some (by kernel_rfl))
 f39:=Tryz.func234.trans (congrArg some (by kernel_rfl))
 f40:=Tryz.func235.trans (congrArg some (by kernel_rfl))
 t0:=Tryz.underlying0
 a0:=Tryz.isAgg0
 z0:=Tryz.sizeOf0
 v0:=Tryz.zeroValue0
 i0:=by kernel_rfl
 t2:=Tryz.underlying2
 a2:=Tryz.isAgg2
 z2:=Tryz.sizeOf2
 v2:=Tryz.zeroValue2
 i2:=by kernel_rfl
 t3:=Tryz.underlying3
 a3:=Tryz.isAgg3
 z3:=Tryz.sizeOf3
 v3:=Tryz.zeroValue3
 i3:=by kernel_rfl
 t4:=Tryz.underlying4
 a4:=Tryz.isAgg4
 z4:=Tryz.sizeOf4
 v4:=Tryz.zeroValue4
 i4:=by kernel_rfl
 t5:=Tryz.underlying5
 a5:=Tryz.isAgg5
 z5:=Tryz.sizeOf5
 v5:=Tryz.zeroValue5
 i5:=by kernel_rfl
 t9:=Tryz.underlying9
 a9:=Tryz.isAgg9
 z9:=Tryz.sizeOf9
 v9:=Tryz.zeroValue9
 i9:=by kernel_rfl
 t20:=Tryz.underlying20
 a20:=Tryz.isAgg20
 z20:=Tryz.sizeOf20
 v20:=Tryz.zeroValue20
 i20:=by kernel_rfl
 t21:=Tryz.underlying21
 a21:=Tryz.isAgg21
 z21:=Tryz.sizeOf21
 v21:=Tryz.zeroValue21
 i21:=by kernel_rfl
 t22:=Tryz.underlying163
 a22:=Tryz.isAgg163
 z22:=Tryz.sizeOf163
 v22:=Tryz.zeroValue163
 i22:=by kernel_rfl
 t24:=Tryz.underlying210
 a24:=Tryz.isAgg210
 z24:=Tryz.sizeOf210
 v24:=Tryz.zeroValue210
 i24:=by kernel_rfl
 t25:=Tryz.underlying224
 a25:=Tryz.isAgg224
 z25:=Tryz.sizeOf224
 v25:=Tryz.zeroValue224
 i25:=by kernel_rfl
 t34:=Tryz.underlying255
 a34:=Tryz.isAgg255
 z34:=Tryz.sizeOf255
 v34:=Tryz.zeroValue255
 i34:=by kernel_rfl
 c34:=by kernel_rfl
 t36:=Tryz.underlying120
 a36:=Tryz.isAgg120
 z36:=Tryz.sizeOf120
 v36:=Tryz.zeroValue120
 i36:=by kernel_rfl
 t37:=Tryz.underlying179
 a37:=Tryz.isAgg179
 z37:=Tryz.sizeOf179
 v37:=Tryz.zeroValue179
 i37:=by kernel_rfl
 t39:=Tryz.underlying257
 a39:=Tryz.isAgg257
 z39:=Tryz.sizeOf257
 v39:=Tryz.zeroValue257
 i39:=by kernel_rfl
 t44:=Tryz.underlying270
 a44:=Tryz.isAgg270
 z44:=Tryz.sizeOf270
 v44:=Tryz.zeroValue270
 i44:=by kernel_rfl
 t47:=Tryz.underlying233
 a47:=Tryz.isAgg233
 z47:=Tryz.sizeOf233
 v47:=Tryz.zeroValue233
 i47:=by kernel_rfl
 t48:=Tryz.underlying272
 a48:=Tryz.isAgg272
 z48:=Tryz.sizeOf272
 v48:=Tryz.zeroValue272
 i48:=by kernel_rfl
 t50:=Tryz.underlying274
 a50:=Tryz.isAgg274
 z50:=Tryz.sizeOf274
 v50:=Tryz.zeroValue274
 i50:=by kernel_rfl
 t52:=Tryz.underlying244
 a52:=Tryz.isAgg244
 z52:=Tryz.sizeOf244
 v52:=Tryz.zeroValue244
 i52:=by kernel_rfl
 t55:=Tryz.underlying247
 a55:=Tryz.isAgg247
 z55:=Tryz.sizeOf247
 v55:=Tryz.zeroValue247
 i55:=by kernel_rfl
 t59:=Tryz.underlying261
 a59:=Tryz.isAgg261
 z59:=Tryz.sizeOf261
 v59:=Tryz.zeroValue261
 i59:=by kernel_rfl
 t60:=Tryz.underlying160
 a60:=Tryz.isAgg160
 z60:=Tryz.sizeOf160
 v60:=Tryz.zeroValue160
 i60:=by kernel_rfl
 t61:=Tryz.underlying262
 a61:=Tryz.isAgg262
 z61:=Tryz.sizeOf262
 t65:=Tryz.underlying275
 a65:=Tryz.isAgg275
 z65:=Tryz.sizeOf275
 v65:=Tryz.zeroValue275
 i65:=by kernel_rfl
 t66:=Tryz.underlying276
 a66:=Tryz.isAgg276
 z66:=Tryz.sizeOf276
 v66:=Tryz.zeroValue276
 i66:=by kernel_rfl
 t67:=Tryz.underlying155
 a67:=Tryz.isAgg155
 z67:=Tryz.sizeOf155
 v67:=Tryz.zeroValue155
 i67:=by kernel_rfl
 g0:=by kernel_rfl
 m0:=by kernel_rfl
 g1:=by kernel_rfl
 m1:=by kernel_rfl
 g2:=by kernel_rfl
 m2:=by kernel_rfl
 g3:=by kernel_rfl
 m3:=by kernel_rfl
 g4:=by kernel_rfl
 m4:=by kernel_rfl}
open Go.RowKit in
theorem Tryz.strconv_ParseUint_10_at32_ok(s:ByteArray)(hmax:s.size <= 9223372036854775806)(u:Nat)(h:Lib.parseUintB 32 s.data.toList= .ok u)(w:World):
  Calls Tryz.prog 176 #[.string s, .int .i64 10, .int .i64 32] w fun e w'=>e= .returned (.tuple #[.int .u64 u, .nilIface]) /\ (w'=w \/ w'=Lib.bytesWorld w 5 s):=Any.strconv_ParseUint_10_at32_ok Tryz.laysPu14 s hmax u h w
def Tryz.lays145_ren:Go.Shelf.Ren:=⟨fun | 145=>144 | 220=>164 | 219=>187 | 217=>207 | 225=>208 | 224=>209 | 267=>210 | 266=>228 | 314=>229 | n=>n,fun | 9=>9 | 4=>4 | 59=>196 | 3=>3 | 5=>5 | 46=>120 | 146=>161 | 51=>160 | n=>n,fun | 1=>0 | n=>n⟩
theorem Tryz.lays145:Go.Proofs.Lays.n145 Tryz.prog Tryz.lays145_ren:= {
 mixed:=by kernel_rfl
 f145:=Tryz.func144.trans (congrArg some (by kernel_rfl))
 f217:=Tryz.func207.trans (congrArg some (by kernel_rfl))
 f219:=Tryz.func187.trans (congrArg some (by kernel_rfl))
 f220:=Tryz.func164.trans (congrArg some (by kernel_rfl))
 f224:=Tryz.func209.trans (congrArg some (by kernel_rfl))
 f225:=Tryz.func208.trans (congrArg some (by kernel_rfl))
 f266:=Tryz.func228.trans (congrArg some (by kernel_rfl))
 f267:=Tryz.func210.trans (congrArg some (by kernel_rfl))
 f314:=Tryz.func229.trans (congrArg some (by kernel_rfl))
 t3:=Tryz.underlying3
 a3:=Tryz.isAgg3
 z3:=Tryz.sizeOf3
 v3:=Tryz.zeroValue3
 t4:=Tryz.underlying4
 a4:=Tryz.isAgg4
 z4:=Tryz.sizeOf4
 v4:=Tryz.zeroValue4
 t5:=Tryz.underlying5
 a5:=Tryz.isAgg5
 z5:=Tryz.sizeOf5
 v5:=Tryz.zeroValue5
 t9:=Tryz.underlying9
 a9:=Tryz.isAgg9
 z9:=Tryz.sizeOf9
 v9:=Tryz.zeroValue9
 t46:=Tryz.underlying120
 a46:=Tryz.isAgg120
 z46:=Tryz.sizeOf120
 v46:=Tryz.zeroValue120
 t51:=Tryz.underlying160
 a51:=Tryz.isAgg160
 z51:=Tryz.sizeOf160
 v51:=Tryz.zeroValue160
 t59:=Tryz.underlying196
 a59:=Tryz.isAgg196
 z59:=Tryz.sizeOf196
 v59:=Tryz.zeroValue196
 t146:=Tryz.underlying161
 a146:=Tryz.isAgg161
 z146:=Tryz.sizeOf161
 v146:=Tryz.zeroValue161
 g1:=by kernel_rfl}
open Go.RowKit Go.Lib in
theorem Tryz.strings_Cut(s sep:ByteArray)(m:Int)(w:World)(hs:s.size<4294967281)(hm: w.cell? ⟨0,0,none⟩=some (.int .i64 m)):
  Calls Tryz.prog 144 #[.string s, .string sep] w fun e w'=>e= .returned (.tuple #[.string ⟨(Lib.cut s.data.toList sep.data.toList).1.toArray⟩, .string ⟨(Lib.cut s.data.toList sep.data.toList).2.1.toArray⟩, .bool (Lib.cut s.data.toList sep.data.toList).2.2]) /\ ∃n,w'=w.drewN n:=Any.strings_Cut Tryz.lays145 s sep m w hs hm
def Tryz.laysM145_ren:Go.Shelf.Ren:=⟨fun | 145=>144 | 220=>164 | 219=>187 | 217=>207 | 225=>208 | 224=>209 | 267=>210 | 266=>228 | 314=>229 | n=>n,fun | 9=>9 | 4=>4 | 59=>196 | 3=>3 | 5=>5 | 46=>120 | 146=>161 | 51=>160 | n=>n,fun | 1=>0 | n=>n⟩
theorem Tryz.laysM145:Go.Proofs.LaysM.n145 Tryz.prog Tryz.laysM145_ren:= {
 mixed:=by kernel_rfl
 f145:=Tryz.func144.trans (congrArg some (by kernel_rfl))
 f217:=Tryz.func207.trans (congrArg some (by kernel_rfl))
 f219:=Tryz.func187.trans (congrArg some (by kernel_rfl))
 f220:=Tryz.func164.trans (congrArg some (by kernel_rfl))
 f224:=Tryz.func209.trans (congrArg some (by kernel_rfl))
 f225:=Tryz.func208.trans (congrArg some (by kernel_rfl))
 f266:=Tryz.func228.trans (congrArg some (by kernel_rfl))
 f267:=Tryz.func210.trans (congrArg some (by kernel_rfl))
 f314:=Tryz.func229.trans (congrArg some (by kernel_rfl))
 t3:=Tryz.underlying3
 a3:=Tryz.isAgg3
 z3:=Tryz.sizeOf3
 v3:=Tryz.zeroValue3
 t4:=Tryz.underlying4
 a4:=Tryz.isAgg4
 z4:=Tryz.sizeOf4
 v4:=Tryz.zeroValue4
 t5:=Tryz.underlying5
 a5:=Tryz.isAgg5
 z5:=Tryz.sizeOf5
 v5:=Tryz.zeroValue5
 t9:=Tryz.underlying9
 a9:=Tryz.isAgg9
 z9:=Tryz.sizeOf9
 v9:=Tryz.zeroValue9
 t46:=Tryz.underlying120
 a46:=Tryz.isAgg120
 z46:=Tryz.sizeOf120
 v46:=Tryz.zeroValue120
 t51:=Tryz.underlying160
 a51:=Tryz.isAgg160
 z51:=Tryz.sizeOf160
 v51:=Tryz.zeroValue160
 t59:=Tryz.underlying196
 a59:=Tryz.isAgg196
 z59:=Tryz.sizeOf196
 v59:=Tryz.zeroValue196
 t146:=Tryz.underlying161
 a146:=Tryz.isAgg161
 z146:=Tryz.sizeOf161
 v146:=Tryz.zeroValue161
 g1:=by kernel_rfl
 i3:=by kernel_rfl
 i4:=by kernel_rfl
 i5:=by kernel_rfl
 i9:=by kernel_rfl
 i46:=by kernel_rfl
 i51:=by kernel_rfl
 i59:=by kernel_rfl
 i146:=by kernel_rfl
 m1:=by kernel_rfl
 s1_3:=fun w h=>Go.Proofs.cell_of_shapedOpen_int (zero:= #[.int .i64 0]) (t:=3) h (of_decide_eq_true (by kernel_rfl)) (by kernel_rfl) rfl (by kernel_rfl) (by kernel_rfl) Tryz.underlying3}
def Tryz.laysGw17_ren:Go.Shelf.Ren:=⟨fun | 17=>174 | 15=>193 | 20=>214 | n=>n,fun | 9=>9 | 23=>223 | 4=>4 | 3=>3 | 0=>0 | 21=>21 | n=>n,fun | n=>n⟩
theorem Tryz.laysGw17:Go.Proofs.LaysGw.n17 Tryz.prog Tryz.laysGw17_ren:= {
 mixed:=by kernel_rfl
 f15:=Tryz.func193.trans (congrArg some (by kernel_rfl))
 f17:=Tryz.func174.trans (congrArg some (by kernel_rfl))
 f20:=Tryz.func214.trans (congrArg some (by kernel_rfl))
 t0:=Tryz.underlying0
 a0:=Tryz.isAgg0
 z0:=Tryz.sizeOf0
 v0:=Tryz.zeroValue0
 i0:=by kernel_rfl
 t3:=Tryz.underlying3
 a3:=Tryz.isAgg3
 z3:=Tryz.sizeOf3
 v3:=Tryz.zeroValue3
 i3:=by kernel_rfl
 t4:=Tryz.underlying4
 a4:=Tryz.isAgg4
 z4:=Tryz.sizeOf4
 v4:=Tryz.zeroValue4
 i4:=by kernel_rfl
 t9:=Tryz.underlying9
 a9:=Tryz.isAgg9
 z9:=Tryz.sizeOf9
 v9:=Tryz.zeroValue9
 i9:=by kernel_rfl
 t21:=Tryz.underlying21
 a21:=Tryz.isAgg21
 z21:=Tryz.sizeOf21
 v21:=Tryz.zeroValue21
 i21:=by kernel_rfl
 t23:=Tryz.underlying223
 a23:=Tryz.isAgg223
 z23:=Tryz.sizeOf223
 v23:=Tryz.zeroValue223
 i23:=by kernel_rfl}
open Go.RowKit Go.Lib in
theorem Tryz.strings_ContainsFunc_runes(g:Nat)(lb:Array Value)(eg:∀args w,(callFunc g args).run Tryz.prog w= .ok (.enter g args) w)(p:Nat -> Bool)(s:ByteArray)(w:World)(hp:PredAtRunes Tryz.prog g lb p w):
  Calls Tryz.prog 174 #[.string s, .func (.func g) #[] lb] w fun e w'=>e= .returned (.bool (decide (0 <= Lib.idxFunc p true s))) /\ Below w.heap.size w w':=Any.strings_ContainsFunc_runes Tryz.laysGw17 g lb eg p s w hp
def Tryz.lays101_ren:Go.Shelf.Ren:=⟨fun | 101=>146 | 208=>165 | 206=>182 | n=>n,fun | 9=>9 | 4=>4 | 3=>3 | n=>n,fun | n=>n⟩
theorem Tryz.lays101:Go.Proofs.Lays.n101 Tryz.prog Tryz.lays101_ren:= {
 mixed:=by kernel_rfl
 f101:=Tryz.func146.trans (congrArg some (by kernel_rfl))
 f206:=Tryz.func182.trans (congrArg some (by kernel_rfl))
 f208:=Tryz.func165.trans (congrArg some (by kernel_rfl))
 t3:=Tryz.underlying3
 a3:=Tryz.isAgg3
 z3:=Tryz.sizeOf3
 v3:=Tryz.zeroValue3
 t4:=Tryz.underlying4
 a4:=Tryz.isAgg4
 z4:=Tryz.sizeOf4
 v4:=Tryz.zeroValue4
 t9:=Tryz.underlying9
 a9:=Tryz.isAgg9
 z9:=Tryz.sizeOf9
 v9:=Tryz.zeroValue9}
open Go.RowKit Go.Lib in
theorem Tryz.strings_TrimPrefix(s p:ByteArray)(w:World):
  Calls Tryz.prog 146 #[.string s, .string p] w fun e w'=>e= .returned (.string ⟨(Lib.trimPrefix s.data.toList p.data.toList).toArray⟩) /\ w'=w:=Any.strings_TrimPrefix Tryz.lays101 s p w
def Tryz.lays105_ren:Go.Shelf.Ren:=⟨fun | 105=>137 | 212=>79 | 99=>158 | 165=>159 | 166=>160 | 170=>161 | 169=>162 | 263=>115 | 264=>116 | 206=>182 | 240=>183 | 241=>184 | 276=>205 | 277=>206 | n=>n,fun | 9=>9 | 3=>3 | 4=>4 | 20=>20 | 0=>0 | 46=>120 | 109=>121 | 5=>5 | 72=>207 | 76=>211 | 51=>160 | 146=>161 | 53=>163 | 148=>164 | 70=>205 | 37=>179 | 75=>210 | 127=>233 | 164=>249 | 80=>155 | n=>n,fun | n=>n⟩
theorem Tryz.lays105:Go.Proofs.Lays.n105 Tryz.prog Tryz.lays105_ren:= {
 mixed:=by kernel_rfl
 f99:=Tryz.func158.trans (congrArg some (by kernel_rfl))
 f105:=Tryz.func137.trans (congrArg some (by kernel_rfl))
 f165:=Tryz.func159.trans (congrArg some (by kernel_rfl))
 f166:=Tryz.func160.trans (congrArg some (by kernel_rfl))
 f169:=Tryz.func162.trans (congrArg some (by kernel_rfl))
 f170:=Tryz.func161.trans (congrArg some (by kernel_rfl))
 f206:=Tryz.func182.trans (congrArg some (by kernel_rfl))
 f212:=Tryz.func79.trans (congrArg some (by kernel_rfl))
 f240:=Tryz.func183.trans (congrArg some (by kernel_rfl))
 f241:=Tryz.func184.trans (congrArg some (by kernel_rfl))
 f263:=Tryz.func115.trans (congrArg some (by kernel_rfl))
 f264:=Tryz.func116.trans (congrArg some (by kernel_rfl))
 f276:=Tryz.func205.trans (congrArg some (by kernel_rfl))
 f277:=Tryz.func206.trans (congrArg some (by kernel_rfl))
 t0:=Tryz.underlying0
 a0:=Tryz.isAgg0
 z0:=Tryz.sizeOf0
 v0:=Tryz.zeroValue0
 t3:=Tryz.underlying3
 a3:=Tryz.isAgg3
 z3:=Tryz.sizeOf3
 v3:=Tryz.zeroValue3
 t4:=Tryz.underlying4
 a4:=Tryz.isAgg4
 z4:=Tryz.sizeOf4
 v4:=Tryz.zeroValue4
 t5:=Tryz.underlying5
 a5:=Tryz.isAgg5
 z5:=Tryz.sizeOf5
 v5:=Tryz.zeroValue5
 t9:=Tryz.underlying9
 a9:=Tryz.isAgg9
 z9:=Tryz.sizeOf9
 v9:=Tryz.zeroValue9
 t20:=Tryz.underlying20
 a20:=Tryz.isAgg20
 z20:=Tryz.sizeOf20
 v20:=Tryz.zeroValue20
 t37:=Tryz.underlying179
 a37:=Tryz.isAgg179
 z37:=Tryz.sizeOf179
 v37:=Tryz.zeroValue179
 t46:=Tryz.underlying120
 a46:=Tryz.isAgg120
 z46:=Tryz.sizeOf120
 v46:=Tryz.zeroValue120
 t51:=Tryz.underlying160
 a51:=Tryz.isAgg160
 z51:=Tryz.sizeOf160
 v51:=Tryz.zeroValue160
 t53:=Tryz.underlying163
 a53:=Tryz.isAgg163
 z53:=Tryz.sizeOf163
 v53:=Tryz.zeroValue163
 t70:=Tryz.underlying205
 a70:=Tryz.isAgg205
 z70:=Tryz.sizeOf205
 v70:=Tryz.zeroValue205
 t72:=Tryz.underlying207
 a72:=Tryz.isAgg207
 z72:=Tryz.sizeOf207
 v72:=Tryz.zeroValue207
 t75:=Tryz.underlying210
 a75:=Tryz.isAgg210
 z75:=Tryz.sizeOf210
 v75:=Tryz.zeroValue210
 t76:=Tryz.underlying211
 a76:=Tryz.isAgg211
 z76:=Tryz.sizeOf211
 v76:=Tryz.zeroValue211
 t109:=Tryz.underlying121
 a109:=Tryz.isAgg121
 z109:=Tryz.sizeOf121
 v109:=Tryz.zeroValue121
 t127:=Tryz.underlying233
 a127:=Tryz.isAgg233
 z127:=Tryz.sizeOf233
 v127:=Tryz.zeroValue233
 t146:=Tryz.underlying161
 a146:=Tryz.isAgg161
 z146:=Tryz.sizeOf161
 v146:=Tryz.zeroValue161
 t148:=Tryz.underlying164
 a148:=Tryz.isAgg164
 z148:=Tryz.sizeOf164
 v148:=Tryz.zeroValue164
 t164:=Tryz.underlying249
 a164:=Tryz.isAgg249
 z164:=Tryz.sizeOf249
 v164:=Tryz.zeroValue249}
theorem Tryz.Builder_Extra_105:Builder.Extra Tryz.prog Tryz.lays105_ren:= {
 sizeBuilder:=by kernel_rfl
 liesBuilder:=by kernel_rfl
 t5:=Tryz.underlying5
 a5:=Tryz.isAgg5
 z5:=Tryz.sizeOf5
 v5:=Tryz.zeroValue5
 infoByte:=by kernel_rfl
 cellsByte:=by kernel_rfl
 sizeByte:=by kernel_rfl
 neB5:=by decide}
open Go.RowKit Go.Lib in
theorem Tryz.strings_Repeat(s:ByteArray)(c:Nat)(w:World)(hc:c <= 9223372036854775807)(hlen:s.size*c <= 140737488355328):
  Calls Tryz.prog 137 #[.string s, .int .i64 c] w fun e w'=>e= .returned (.string ⟨(Lib.repeatL s.data.toList c).toArray⟩) /\ Below w.heap.size w w':=Any.strings_Repeat Tryz.lays105 Tryz.Builder_Extra_105 s c w hc hlen
def Tryz.laysNm217_ren:Go.Shelf.Ren:=⟨fun | 17=>138 | n=>n,fun | 24=>152 | 9=>9 | 3=>3 | 4=>4 | 0=>0 | n=>n,fun | n=>n⟩
theorem Tryz.laysNm217:Go.Proofs.Lays2.n17 Tryz.prog Tryz.laysNm217_ren:= {
 mixed:=by kernel_rfl
 f17:=Tryz.func138.trans (congrArg some (by kernel_rfl))
 t0:=Tryz.underlying0
 a0:=Tryz.isAgg0
 z0:=Tryz.sizeOf0
 v0:=Tryz.zeroValue0
 t3:=Tryz.underlying3
 a3:=Tryz.isAgg3
 z3:=Tryz.sizeOf3
 v3:=Tryz.zeroValue3
 t4:=Tryz.underlying4
 a4:=Tryz.isAgg4
 z4:=Tryz.sizeOf4
 v4:=Tryz.zeroValue4
 t9:=Tryz.underlying9
 a9:=Tryz.isAgg9
 z9:=Tryz.sizeOf9
 v9:=Tryz.zeroValue9
 t24:=Tryz.underlying152
 a24:=Tryz.isAgg152
 z24:=Tryz.sizeOf152
 v24:=Tryz.zeroValue152}
open Go.RowKit Go.Lib Go.Sort in
theorem Tryz.slices_Reverse_string_cells(b off n c:Nat)(Sx:Nat -> ByteArray)(w:World)(hbig:n <= 9223372036854775807)(hc:∀i,i<n -> w.cell? ⟨b,off+i,none⟩=some (.string (Sx i)))(hf:∀j,j<n -> w.frozen? ⟨b,off+j,none⟩=false):
  Calls Tryz.prog 138 #[.slice (some ⟨b,off,none⟩) n c] w fun e w'=>e= .returned (.tuple #[]) /\ ∃q,w'=(w.drewN q).setCells b off ((Lib.strsOf Sx n).reverse.map encStr):=Any.slices_Reverse_string_cells Tryz.laysNm217 b off n c Sx w hbig hc hf
def Tryz.laysSlE041_f222_ren:Go.Shelf.Ren:=⟨fun | 41=>222 | n=>n,fun | 22=>101 | 23=>160 | 4=>4 | n=>n,fun | n=>n⟩
theorem Tryz.laysSlE041_f222:Go.Proofs.SlLaysE0.n41 Tryz.prog Tryz.laysSlE041_f222_ren:= {
 mixed:=by kernel_rfl
 f41:=⟨Tryz.f222.name,by decide,Tryz.func222.trans (congrArg some (by kernel_rfl))⟩
 t4:=Tryz.underlying4
 a4:=Tryz.isAgg4
 z4:=Tryz.sizeOf4
 v4:=Tryz.zeroValue4
 t22:=Tryz.underlying101
 a22:=Tryz.isAgg101
 z22:=Tryz.sizeOf101
 v22:=Tryz.zeroValue101}
open Go.RowKit Go.Lib in
theorem Tryz.slices_Clone(i0:TypeInfo)(z:Value)(size bytes:Nat)(hi: Tryz.prog.info? 160=some i0)(hz0:i0.zero=some z)(hz1:i0.size=size)(hz2:i0.bytes=bytes)(hzs:z.cells.size=size)(hsz:0<size)(z23:∀w,(Go.sizeOf 160).run Tryz.prog w= .ok size w)(b off n c:Nat)(news:List Value)(w:World)(hl:news.length=n*size)(hn:n <= maxLen)(hbig:n*bytes <= 140737488355328)(hc:∀j u,news[j]? =some u -> w.cell? ⟨b,off+j,none⟩=some u)(h1:∀u ∈ news,u.oneCell'=true):
  Calls Tryz.prog 222 #[.slice (some ⟨b,off,none⟩) n c] w fun e w'=>∃v',e= .returned v' /\ w'.ownsRow w.heap.size 160 size v' n news /\ v'≠ .slice none 0 0 /\ Below w.heap.size w w':=AnyE.slices_Clone Tryz.laysSlE041_f222 i0 z size bytes hi hz0 hz1 hz2 hzs hsz z23 b off n c news w hl hn hbig hc h1
end Go.Proofs
