/- Parts of this proof: Shelf. -/
import Derived.Shelf.Strings.Builder1
import Derived.Shelf.Strings.Builder2
import Derived.Shelf.Strings.OnBuilder
import Derived.Shelf.Strings.Trim
import Derived.Shelf.Small.Utf8
import Derived.Shelf.Small.Bits
import Derived.Shelf.Small.Strs
import Derived.Shelf.Small.Wraps
import Derived.Shelf.Strings.BuilderF
import Derived.Shelf.Strconv.Itoa0
import Derived.Shelf.Strconv.Itoa1
import Derived.Shelf.LaysM
import Derived.Shelf.Strconv.Itoa2
import Derived.Shelf.Strconv.Itoa3
import Derived.Ground.MpProg
import Derived.Shelf.Pu.ParseUintPublic10
import Derived.Shelf.Strings.Search1
import Derived.Shelf.Strings.Search2
import Derived.Shelf.Strings.Cut
import Derived.Shelf.Strings.Shaped
import Derived.Shelf.GgClosure.StringsIndexFunc
import Derived.Ground.GgwProg
import Derived.Shelf.GgClosure.StringsIndexFuncTop
import Derived.Shelf.GgClosure.StringsRunes
import Derived.Shelf.Strings.Prefix
import Derived.Shelf.Strings.Runes
import Derived.Shelf.Strings.AsciiSet
import Derived.Shelf.Bits.Mul64
import Derived.Shelf.Strings.Repeat
import Derived.Shelf.Unicode.DecodeSlow
import Derived.Shelf.Unicode.DecodeAny
import Derived.Shelf.Unicode.DecodeLast
import Derived.Ground.Names2Prog
import Derived.Shelf.Slices.ReverseS
import Derived.Shelf.Slices.Cells
import Derived.Ground.SlgnProg
import Derived.Shelf.SlicesE.Clone
import Derived.Test.YtokagbahdkfagaaGreatDoorProg
namespace Go.Proofs
open Go.Shelf
def Tryz.uY:Go.Shelf.Ren:=⟨fun | 156=>104 | 165=>131 | 166=>132 | 169=>134 | 240=>161 | 241=>162 | 276=>185 | 277=>186 | n=>n,fun | 31=>168 | 9=>9 | 3=>3 | 4=>4 | 0=>0 | 20=>20 | 72=>216 | 76=>220 | 70=>214 | 37=>176 | 75=>219 | 127=>250 | 164=>271 | 5=>5 | 80=>128 | n=>n,fun | n=>n⟩
theorem Tryz.AJ:Go.Proofs.Lays.n156 Tryz.prog Tryz.uY:=by constructor <;> first | kernel_rfl | (intro w;kernel_rfl) | decide
theorem Tryz.AL:Builder.Extra Tryz.prog Tryz.uY:=by constructor <;> first | kernel_rfl | (intro w;kernel_rfl) | (constructor <;> first | kernel_rfl | (intro w;kernel_rfl) | decide) | decide
open Go.RowKit in
theorem Tryz.strings_Join(h o c:Nat)(xs:List ByteArray)(r:ByteArray)(w:World)(E:∀ (j:Nat) x,xs[j]? =some x -> w.cell? ⟨h,o+j,none⟩=some (.string x))(t:h<w.heap.size)(hN:xs.length <= 140737488355328)(C:xs.length <= c)(G:(Lib.join (xs.map (·.data.toList)) r.data.toList).length <= 140737488355328):
  Calls Tryz.prog 104 #[.slice (some ⟨h,o,none⟩) xs.length c, .string r] w fun e w'=>e= .returned (.string ⟨(Lib.join (xs.map (·.data.toList)) r.data.toList).toArray⟩) /\ Below w.heap.size w w':=Any.strings_Join Tryz.AJ Tryz.AL h o c xs r w E t hN C G
def Tryz.AP:Go.Shelf.Ren:=⟨fun | 133=>163 | 128=>187 | n=>n,fun | 51=>169 | 3=>3 | 4=>4 | 46=>180 | 5=>5 | 9=>9 | n=>n,fun | n=>n⟩
theorem Tryz.AQ:Go.Proofs.Lays.n133 Tryz.prog Tryz.AP:=by constructor <;> first | kernel_rfl | (intro w;kernel_rfl) | decide
theorem Tryz.bits_LeadingZeros32(x:Int)(w:World)(h0:0 <= x)(h1:x <= 4294967295):
  Calls Tryz.prog 163 #[.int .u32 x] w fun e w'=>e= .returned (.int .i64 (32-(Lib.bitLen x.toNat:Int))) /\ w'=w:=Any.bits_LeadingZeros32 Tryz.AQ x w h0 h1
def Tryz.AU:Go.Shelf.Ren:=⟨fun | 103=>148 | 210=>173 | 206=>160 | n=>n,fun | 9=>9 | 4=>4 | 24=>233 | 3=>3 | n=>n,fun | n=>n⟩
theorem Tryz.AV:Go.Proofs.Lays.n103 Tryz.prog Tryz.AU:=by constructor <;> first | kernel_rfl | (intro w;kernel_rfl) | decide
open Go.RowKit in
theorem Tryz.strings_CutPrefix(s p:ByteArray)(w:World):
  Calls Tryz.prog 148 #[.string s, .string p] w fun e w'=>e= .returned (.tuple #[.string ⟨(Lib.trimPrefix s.data.toList p.data.toList).toArray⟩, .bool (Lib.hasPrefix s.data.toList p.data.toList)]) /\ w'=w:=Any.strings_CutPrefix Tryz.AV s p w
def Tryz.AX:Go.Shelf.Ren:=⟨fun | 171=>101 | 243=>128 | 246=>157 | 283=>181 | 284=>182 | 285=>183 | 286=>184 | 129=>205 | 317=>204 | 318=>206 | 319=>207 | 320=>208 | 337=>215 | 338=>216 | n=>n,fun | 3=>3 | 9=>9 | 2=>2 | 4=>4 | 171=>266 | 0=>0 | 53=>178 | 37=>176 | 5=>5 | 173=>269 | 212=>282 | 51=>169 | 20=>20 | 213=>283 | 46=>180 | 232=>297 | 233=>298 | n=>n,fun | 17=>1 | 18=>6 | 19=>7 | n=>n⟩
theorem Tryz.AY:Go.Proofs.LaysM.n171 Tryz.prog Tryz.AX:=by constructor <;> first | kernel_rfl | (intro w;kernel_rfl) | (constructor <;> first | kernel_rfl | (intro w;kernel_rfl) | decide) | decide
open Go.RowKit Go.Sort Go.Lib in
theorem Tryz.strconv_Itoa(n:Int)(h0: -9223372036854775808 <= n)(h1:n <= 9223372036854775807)(w:World)(h:Lib.TabIs Tryz.prog w "internal/strconv.uint64pow10" .u64 Lib.pow10Tab):
  Calls Tryz.prog 101 #[.int .i64 n] w fun e w'=>e= .returned (.string ⟨(Lib.itoa n).toArray⟩) /\ ∃k r,w'=grow (w.drewN k) r:=Any.strconv_Itoa Tryz.AY n h0 h1 w h
def Tryz.AZ:Go.Shelf.Ren:=⟨fun | 14=>150 | 16=>174 | 17=>175 | 19=>196 | 20=>197 | 21=>198 | 22=>199 | 23=>200 | 24=>201 | 25=>213 | 27=>101 | 26=>214 | 28=>128 | 29=>157 | 30=>181 | 31=>182 | 32=>183 | 33=>184 | 35=>205 | 34=>204 | 36=>206 | 37=>207 | 38=>208 | 39=>215 | 40=>216 | n=>n,fun | 9=>9 | 3=>3 | 22=>178 | 24=>219 | 25=>235 | 4=>4 | 34=>276 | 5=>5 | 36=>180 | 37=>176 | 0=>0 | 39=>278 | 21=>21 | 44=>292 | 47=>250 | 50=>296 | 48=>294 | 2=>2 | 52=>266 | 55=>269 | 59=>282 | 60=>169 | 20=>20 | 61=>283 | 65=>297 | 66=>298 | 67=>128 | n=>n,fun | 0=>4 | 1=>5 | 2=>1 | 3=>6 | 4=>7 | n=>n⟩
theorem Tryz.Bj:Go.Proofs.LaysPu.n14 Tryz.prog Tryz.AZ:=by constructor <;> first | kernel_rfl | (intro w;kernel_rfl) | decide
open Go.RowKit in
theorem Tryz.strconv_ParseUint_10_at32_ok(s:ByteArray)(r:s.size <= 9223372036854775806)(u:Nat)(h:Lib.parseUintB 32 s.data.toList= .ok u)(w:World):
  Calls Tryz.prog 150 #[.string s, .int .i64 10, .int .i64 32] w fun e w'=>e= .returned (.tuple #[.int .u64 u, .nilIface]) /\ (w'=w \/ w'=Lib.bytesWorld w 5 s):=Any.strconv_ParseUint_10_at32_ok Tryz.Bj s r u h w
def Tryz.Bn:Go.Shelf.Ren:=⟨fun | 145=>119 | 220=>139 | 219=>168 | 217=>189 | 225=>190 | 224=>191 | 267=>192 | 266=>209 | 314=>210 | n=>n,fun | 9=>9 | 4=>4 | 59=>196 | 3=>3 | 5=>5 | 46=>180 | 146=>246 | 51=>169 | n=>n,fun | 1=>0 | n=>n⟩
theorem Tryz.Bo:Go.Proofs.Lays.n145 Tryz.prog Tryz.Bn:=by constructor <;> first | kernel_rfl | (intro w;kernel_rfl) | decide
open Go.RowKit Go.Lib in
theorem Tryz.strings_Cut(s h:ByteArray)(m:Int)(w:World)(t:s.size<4294967281)(r: w.cell? ⟨0,0,none⟩=some (.int .i64 m)):
  Calls Tryz.prog 119 #[.string s, .string h] w fun e w'=>e= .returned (.tuple #[.string ⟨(Lib.cut s.data.toList h.data.toList).1.toArray⟩, .string ⟨(Lib.cut s.data.toList h.data.toList).2.1.toArray⟩, .bool (Lib.cut s.data.toList h.data.toList).2.2]) /\ ∃n,w'=w.drewN n:=Any.strings_Cut Tryz.Bo s h m w t r
def Tryz.Bt:Go.Shelf.Ren:=⟨fun | 145=>119 | 220=>139 | 219=>168 | 217=>189 | 225=>190 | 224=>191 | 267=>192 | 266=>209 | 314=>210 | n=>n,fun | 9=>9 | 4=>4 | 59=>196 | 3=>3 | 5=>5 | 46=>180 | 146=>246 | 51=>169 | n=>n,fun | 1=>0 | n=>n⟩
theorem Tryz.BD:Go.Proofs.LaysM.n145 Tryz.prog Tryz.Bt:=by constructor <;> first | kernel_rfl | (intro w;kernel_rfl) | exact fun w h=>Go.Proofs.cell_of_shapedOpen_int (zero:= #[.int .i64 0]) (t:=3) h (of_decide_eq_true (by kernel_rfl)) (by kernel_rfl) rfl (by kernel_rfl) (by kernel_rfl) Tryz.underlying3 | (constructor <;> first | kernel_rfl | (intro w;kernel_rfl) | exact fun w h=>Go.Proofs.cell_of_shapedOpen_int (zero:= #[.int .i64 0]) (t:=3) h (of_decide_eq_true (by kernel_rfl)) (by kernel_rfl) rfl (by kernel_rfl) (by kernel_rfl) Tryz.underlying3 | decide) | decide
def Tryz.BF:Go.Shelf.Ren:=⟨fun | 17=>112 | 15=>137 | 20=>167 | n=>n,fun | 9=>9 | 23=>186 | 4=>4 | 3=>3 | 0=>0 | 21=>21 | n=>n,fun | n=>n⟩
theorem Tryz.BH:Go.Proofs.LaysGw.n17 Tryz.prog Tryz.BF:=by constructor <;> first | kernel_rfl | (intro w;kernel_rfl) | decide
open Go.RowKit Go.Lib in
theorem Tryz.strings_ContainsFunc_runes(g:Nat)(lb:Array Value)(h:∀args w,(callFunc g args).run Tryz.prog w= .ok (.enter g args) w)(p:Nat -> Bool)(s:ByteArray)(w:World)(r:PredAtRunes Tryz.prog g lb p w):
  Calls Tryz.prog 112 #[.string s, .func (.func g) #[] lb] w fun e w'=>e= .returned (.bool (decide (0 <= Lib.idxFunc p true s))) /\ Below w.heap.size w w':=Any.strings_ContainsFunc_runes Tryz.BH g lb h p s w r
def Tryz.BJ:Go.Shelf.Ren:=⟨fun | 101=>121 | 208=>140 | 206=>160 | n=>n,fun | 9=>9 | 4=>4 | 3=>3 | n=>n,fun | n=>n⟩
theorem Tryz.BK:Go.Proofs.Lays.n101 Tryz.prog Tryz.BJ:=by constructor <;> first | kernel_rfl | (intro w;kernel_rfl) | decide
open Go.RowKit Go.Lib in
theorem Tryz.strings_TrimPrefix(s p:ByteArray)(w:World):
  Calls Tryz.prog 121 #[.string s, .string p] w fun e w'=>e= .returned (.string ⟨(Lib.trimPrefix s.data.toList p.data.toList).toArray⟩) /\ w'=w:=Any.strings_TrimPrefix Tryz.BK s p w
def Tryz.uZ:Go.Shelf.Ren:=⟨fun | 105=>102 | 212=>129 | 99=>130 | 165=>131 | 166=>132 | 170=>133 | 169=>134 | 263=>158 | 264=>159 | 206=>160 | 240=>161 | 241=>162 | 276=>185 | 277=>186 | n=>n,fun | 9=>9 | 3=>3 | 4=>4 | 20=>20 | 0=>0 | 46=>180 | 109=>211 | 5=>5 | 72=>216 | 76=>220 | 51=>169 | 146=>246 | 53=>178 | 148=>248 | 70=>214 | 37=>176 | 75=>219 | 127=>250 | 164=>271 | 80=>128 | n=>n,fun | n=>n⟩
theorem Tryz.BL:Go.Proofs.Lays.n105 Tryz.prog Tryz.uZ:=by constructor <;> first | kernel_rfl | (intro w;kernel_rfl) | decide
theorem Tryz.BM:Builder.Extra Tryz.prog Tryz.uZ:=by constructor <;> first | kernel_rfl | (intro w;kernel_rfl) | (constructor <;> first | kernel_rfl | (intro w;kernel_rfl) | decide) | decide
open Go.RowKit Go.Lib in
theorem Tryz.strings_Repeat(s:ByteArray)(c:Nat)(w:World)(h:c <= 9223372036854775807)(r:s.size*c <= 140737488355328):
  Calls Tryz.prog 102 #[.string s, .int .i64 c] w fun e w'=>e= .returned (.string ⟨(Lib.repeatL s.data.toList c).toArray⟩) /\ Below w.heap.size w w':=Any.strings_Repeat Tryz.BL Tryz.BM s c w h r
def Tryz.BQ:Go.Shelf.Ren:=⟨fun | 17=>103 | n=>n,fun | 24=>168 | 9=>9 | 3=>3 | 4=>4 | 0=>0 | n=>n,fun | n=>n⟩
theorem Tryz.BS:Go.Proofs.Lays2.n17 Tryz.prog Tryz.BQ:=by constructor <;> first | kernel_rfl | (intro w;kernel_rfl) | decide
open Go.RowKit Go.Lib Go.Sort in
theorem Tryz.slices_Reverse_string_cells(b h n c:Nat)(r:Nat -> ByteArray)(w:World)(t:n <= 9223372036854775807)(C:∀i,i<n -> w.cell? ⟨b,h+i,none⟩=some (.string (r i)))(E:∀j,j<n -> w.frozen? ⟨b,h+j,none⟩=false):
  Calls Tryz.prog 103 #[.slice (some ⟨b,h,none⟩) n c] w fun e w'=>e= .returned (.tuple #[]) /\ ∃q,w'=(w.drewN q).setCells b h ((Lib.strsOf r n).reverse.map encStr):=Any.slices_Reverse_string_cells Tryz.BS b h n c r w t C E
def Tryz.BU:Go.Shelf.Ren:=⟨fun | 41=>188 | n=>n,fun | 22=>36 | 23=>169 | 4=>4 | n=>n,fun | n=>n⟩
theorem Tryz.BV:Go.Proofs.SlLaysE0.n41 Tryz.prog Tryz.BU:=by constructor <;> first | kernel_rfl | (intro w;kernel_rfl) | exact⟨Tryz.f188.name,by decide,Tryz.func188.trans (congrArg some (by kernel_rfl))⟩ | decide
open Go.RowKit Go.Lib in
theorem Tryz.slices_Clone(h:TypeInfo)(z:Value)(size t:Nat)(M: Tryz.prog.info? 169=some h)(U:h.zero=some z)(V:h.size=size)(W:h.bytes=t)(X:z.cells.size=size)(T:0<size)(Y:∀w,(Go.sizeOf 169).run Tryz.prog w= .ok size w)(b C n c:Nat)(r:List Value)(w:World)(O:r.length=n*size)(R:n <= maxLen)(E:n*t <= 140737488355328)(G:∀j u,r[j]? =some u -> w.cell? ⟨b,C+j,none⟩=some u)(h1:∀u ∈ r,u.oneCell'=true):
  Calls Tryz.prog 188 #[.slice (some ⟨b,C,none⟩) n c] w fun e w'=>∃v',e= .returned v' /\ w'.ownsRow w.heap.size 169 size v' n r /\ v'≠ .slice none 0 0 /\ Below w.heap.size w w':=AnyE.slices_Clone Tryz.BV h z size t M U V W X T Y b C n c r w O R E G h1
end Go.Proofs
