/- Parts of this proof: ShelfB. -/
import Derived.Test.YtdefghfjhgmpfaaGreatDoorQAA
import Derived.Shelf.Strings.Builder1
import Derived.Shelf.Strings.Builder2
import Derived.Shelf.Strings.OnBuilder
import Derived.Shelf.Strings.Trim
import Derived.Shelf.Small.Utf8
import Derived.Shelf.Small.Bits
import Derived.Shelf.Small.Strs
import Derived.Shelf.Small.Wraps
import Derived.Shelf.Strings.BuilderF
import Derived.Shelf.Strconv.Itoa0
import Derived.Shelf.Strconv.Itoa1
import Derived.Shelf.LaysM
import Derived.Shelf.Strconv.Itoa2
import Derived.Shelf.Strconv.Itoa3
import Derived.Ground.MpProg
import Derived.Shelf.Pu.ParseUintPublic10
import Derived.Shelf.Strings.Search1
import Derived.Shelf.Strings.Search2
import Derived.Shelf.Strings.Cut
import Derived.Shelf.Strings.Shaped
import Derived.Shelf.GgClosure.StringsIndexFunc
import Derived.Ground.GgwProg
import Derived.Shelf.GgClosure.StringsIndexFuncTop
import Derived.Shelf.GgClosure.StringsRunes
import Derived.Shelf.Strings.Prefix
import Derived.Shelf.Strings.Runes
import Derived.Shelf.Strings.AsciiSet
import Derived.Shelf.Bits.Mul64
import Derived.Shelf.Strings.Repeat
import Derived.Shelf.Unicode.DecodeSlow
import Derived.Shelf.Unicode.DecodeAny
import Derived.Shelf.Unicode.DecodeLast
import Derived.Ground.Names2Prog
import Derived.Shelf.Slices.ReverseS
import Derived.Shelf.Slices.Cells
import Derived.Ground.SlgnProg
import Derived.Shelf.SlicesE.Equal
import Derived.Shelf.SlicesE.Clone
import Derived.Ground.SlgfProg
import Derived.Shelf.SlicesE.IndexFunc
import Derived.Test.YtdefghfjhgmpfaaGreatDoorProg
namespace Go.Proofs
open Go.Shelf
def Tryz.lays160_ren:Go.Shelf.Ren:=⟨fun | 160=>147 | 232=>167 | 231=>166 | 227=>168 | 234=>170 | 233=>169 | 236=>172 | 235=>171 | 228=>188 | 271=>191 | 151=>190 | 197=>189 | 120=>213 | 152=>212 | 260=>211 | 137=>230 | 119=>231 | 224=>209 | 225=>208 | 217=>207 | 266=>228 | n=>n,fun | 9=>9 | 4=>4 | 3=>3 | 5=>5 | 117=>216 | 116=>215 | 0=>0 | 124=>219 | 21=>21 | 105=>236 | 46=>120 | 119=>265 | 139=>268 | 138=>267 | n=>n,fun | 3=>2 | 4=>3 | n=>n⟩
theorem Tryz.lays160:Go.Proofs.Lays.n160 Tryz.prog Tryz.lays160_ren:= {
  mixed:=by kernel_rfl
  f119:=Tryz.func231.trans (congrArg some (by kernel_rfl))
  f120:=Tryz.func213.trans (congrArg some (by kernel_rfl))
  f137:=Tryz.func230.trans (congrArg some (by kernel_rfl))
  f151:=Tryz.func190.trans (congrArg some (by kernel_rfl))
  f152:=Tryz.func212.trans (congrArg some (by kernel_rfl))
  f160:=Tryz.func147.trans (congrArg some (by kernel_rfl))
  f197:=Tryz.func189.trans (congrArg some (by kernel_rfl))
  f217:=Tryz.func207.trans (congrArg some (by kernel_rfl))
  f224:=Tryz.func209.trans (congrArg some (by kernel_rfl))
  f225:=Tryz.func208.trans (congrArg some (by kernel_rfl))
  f227:=Tryz.func168.trans (congrArg some (by kernel_rfl))
  f228:=Tryz.func188.trans (congrArg some (by kernel_rfl))
  f231:=Tryz.func166.trans (congrArg some (by kernel_rfl))
  f232:=Tryz.func167.trans (congrArg some (by kernel_rfl))
  f233:=Tryz.func169.trans (congrArg some (by kernel_rfl))
  f234:=Tryz.func170.trans (congrArg some (by kernel_rfl))
  f235:=Tryz.func171.trans (congrArg some (by kernel_rfl))
  f236:=Tryz.func172.trans (congrArg some (by kernel_rfl))
  f260:=Tryz.func211.trans (congrArg some (by kernel_rfl))
  f266:=Tryz.func228.trans (congrArg some (by kernel_rfl))
  f271:=Tryz.func191.trans (congrArg some (by kernel_rfl))
  t0:=Tryz.underlying0
  a0:=Tryz.isAgg0
  z0:=Tryz.sizeOf0
  v0:=Tryz.zeroValue0
  t3:=Tryz.underlying3
  a3:=Tryz.isAgg3
  z3:=Tryz.sizeOf3
  v3:=Tryz.zeroValue3
  t4:=Tryz.underlying4
  a4:=Tryz.isAgg4
  z4:=Tryz.sizeOf4
  v4:=Tryz.zeroValue4
  t5:=Tryz.underlying5
  a5:=Tryz.isAgg5
  z5:=Tryz.sizeOf5
  v5:=Tryz.zeroValue5
  t9:=Tryz.underlying9
  a9:=Tryz.isAgg9
  z9:=Tryz.sizeOf9
  v9:=Tryz.zeroValue9
  t21:=Tryz.underlying21
  a21:=Tryz.isAgg21
  z21:=Tryz.sizeOf21
  v21:=Tryz.zeroValue21
  t46:=Tryz.underlying120
  a46:=Tryz.isAgg120
  z46:=Tryz.sizeOf120
  v46:=Tryz.zeroValue120
  t105:=Tryz.underlying236
  a105:=Tryz.isAgg236
  z105:=Tryz.sizeOf236
  v105:=Tryz.zeroValue236
  t116:=Tryz.underlying215
  a116:=Tryz.isAgg215
  z116:=Tryz.sizeOf215
  t117:=Tryz.underlying216
  a117:=Tryz.isAgg216
  z117:=Tryz.sizeOf216
  v117:=Tryz.zeroValue216
  t119:=Tryz.underlying265
  a119:=Tryz.isAgg265
  z119:=Tryz.sizeOf265
  t124:=Tryz.underlying219
  a124:=Tryz.isAgg219
  z124:=Tryz.sizeOf219
  v124:=Tryz.zeroValue219
  t138:=Tryz.underlying267
  a138:=Tryz.isAgg267
  z138:=Tryz.sizeOf267
  v138:=Tryz.zeroValue267
  t139:=Tryz.underlying268
  a139:=Tryz.isAgg268
  z139:=Tryz.sizeOf268
  v139:=Tryz.zeroValue268
  g3:=by kernel_rfl
  g4:=by kernel_rfl}
end Go.Proofs
