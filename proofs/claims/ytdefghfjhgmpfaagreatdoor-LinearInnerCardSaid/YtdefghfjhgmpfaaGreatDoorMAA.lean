/- Parts of this proof: Shelf. -/
import Derived.Shelf.Strings.Builder1
import Derived.Shelf.Strings.Builder2
import Derived.Shelf.Strings.OnBuilder
import Derived.Shelf.Strings.Trim
import Derived.Shelf.Small.Utf8
import Derived.Shelf.Small.Bits
import Derived.Shelf.Small.Strs
import Derived.Shelf.Small.Wraps
import Derived.Shelf.Strings.BuilderF
import Derived.Shelf.Strconv.Itoa0
import Derived.Shelf.Strconv.Itoa1
import Derived.Shelf.LaysM
import Derived.Shelf.Strconv.Itoa2
import Derived.Shelf.Strconv.Itoa3
import Derived.Ground.MpProg
import Derived.Shelf.Pu.ParseUintPublic10
import Derived.Shelf.Strings.Search1
import Derived.Shelf.Strings.Search2
import Derived.Shelf.Strings.Cut
import Derived.Shelf.Strings.Shaped
import Derived.Shelf.GgClosure.StringsIndexFunc
import Derived.Ground.GgwProg
import Derived.Shelf.GgClosure.StringsIndexFuncTop
import Derived.Shelf.GgClosure.StringsRunes
import Derived.Shelf.Strings.Prefix
import Derived.Shelf.Unicode.Decode
import Derived.Shelf.Strings.Runes
import Derived.Shelf.Strings.AsciiSet
import Derived.Shelf.Bits.Mul64
import Derived.Shelf.Strings.Repeat
import Derived.Shelf.Unicode.DecodeSlow
import Derived.Shelf.Unicode.DecodeAny
import Derived.Shelf.Unicode.DecodeLast
import Derived.Ground.Names2Prog
import Derived.Shelf.Slices.ReverseS
import Derived.Shelf.Slices.Cells
import Derived.Ground.SlgnProg
import Derived.Shelf.SlicesE.Equal
import Derived.Shelf.SlicesE.Clone
import Derived.Ground.SlgfProg
import Derived.Shelf.SlicesE.IndexFunc
import Derived.Shelf.SlicesE.DeleteFunc
import Derived.Test.YtdefghfjhgmpfaaGreatDoorProg
namespace Go.Proofs
open Go.Shelf
def Tryz.wY:Go.Shelf.Ren:=⟨fun | 156=>139 | 165=>159 | 166=>160 | 169=>162 | 240=>183 | 241=>184 | 276=>205 | 277=>206 | n=>n,fun | 31=>152 | 9=>9 | 3=>3 | 4=>4 | 0=>0 | 20=>20 | 72=>207 | 76=>211 | 70=>205 | 37=>179 | 75=>210 | 127=>233 | 164=>249 | 5=>5 | 80=>155 | n=>n,fun | n=>n⟩
theorem Tryz.CP:Go.Proofs.Lays.n156 Tryz.prog Tryz.wY:=by constructor <;> first | kernel_rfl | (intro w;kernel_rfl) | decide
theorem Tryz.CQ:Builder.Extra Tryz.prog Tryz.wY:=by constructor <;> first | kernel_rfl | (intro w;kernel_rfl) | (constructor <;> first | kernel_rfl | (intro w;kernel_rfl) | decide) | decide
open Go.RowKit in
theorem Tryz.strings_Join(h o c:Nat)(xs:List ByteArray)(t:ByteArray)(w:World)(G:∀ (j:Nat) x,xs[j]? =some x -> w.cell? ⟨h,o+j,none⟩=some (.string x))(E:h<w.heap.size)(hN:xs.length <= 140737488355328)(F:xs.length <= c)(M:(Lib.join (xs.map (·.data.toList)) t.data.toList).length <= 140737488355328):
  Calls Tryz.prog 139 #[.slice (some ⟨h,o,none⟩) xs.length c, .string t] w fun e w'=>e= .returned (.string ⟨(Lib.join (xs.map (·.data.toList)) t.data.toList).toArray⟩) /\ Below w.heap.size w w':=Any.strings_Join Tryz.CP Tryz.CQ h o c xs t w G E hN F M
def Tryz.CR:Go.Shelf.Ren:=⟨fun | 133=>196 | 128=>221 | n=>n,fun | 51=>160 | 3=>3 | 4=>4 | 46=>120 | 5=>5 | 9=>9 | n=>n,fun | n=>n⟩
theorem Tryz.CS:Go.Proofs.Lays.n133 Tryz.prog Tryz.CR:=by constructor <;> first | kernel_rfl | (intro w;kernel_rfl) | decide
theorem Tryz.bits_LeadingZeros32(x:Int)(w:World)(h0:0 <= x)(h1:x <= 4294967295):
  Calls Tryz.prog 196 #[.int .u32 x] w fun e w'=>e= .returned (.int .i64 (32-(Lib.bitLen x.toNat:Int))) /\ w'=w:=Any.bits_LeadingZeros32 Tryz.CS x w h0 h1
def Tryz.CV:Go.Shelf.Ren:=⟨fun | 103=>173 | 210=>192 | 206=>182 | n=>n,fun | 9=>9 | 4=>4 | 24=>220 | 3=>3 | n=>n,fun | n=>n⟩
theorem Tryz.CW:Go.Proofs.Lays.n103 Tryz.prog Tryz.CV:=by constructor <;> first | kernel_rfl | (intro w;kernel_rfl) | decide
open Go.RowKit in
theorem Tryz.strings_CutPrefix(s p:ByteArray)(w:World):
  Calls Tryz.prog 173 #[.string s, .string p] w fun e w'=>e= .returned (.tuple #[.string ⟨(Lib.trimPrefix s.data.toList p.data.toList).toArray⟩, .bool (Lib.hasPrefix s.data.toList p.data.toList)]) /\ w'=w:=Any.strings_CutPrefix Tryz.CW s p w
def Tryz.CX:Go.Shelf.Ren:=⟨fun | 171=>136 | 243=>157 | 246=>181 | 283=>201 | 284=>202 | 285=>203 | 286=>204 | 129=>224 | 317=>223 | 318=>225 | 319=>226 | 320=>227 | 337=>234 | 338=>235 | n=>n,fun | 3=>3 | 9=>9 | 2=>2 | 4=>4 | 171=>244 | 0=>0 | 53=>163 | 37=>179 | 5=>5 | 173=>247 | 212=>261 | 51=>160 | 20=>20 | 213=>262 | 46=>120 | 232=>275 | 233=>276 | n=>n,fun | 17=>1 | 18=>6 | 19=>7 | n=>n⟩
theorem Tryz.CY:Go.Proofs.LaysM.n171 Tryz.prog Tryz.CX:=by constructor <;> first | kernel_rfl | (intro w;kernel_rfl) | (constructor <;> first | kernel_rfl | (intro w;kernel_rfl) | decide) | decide
open Go.RowKit Go.Sort Go.Lib in
theorem Tryz.strconv_Itoa(n:Int)(h0: -9223372036854775808 <= n)(h1:n <= 9223372036854775807)(w:World)(h:Lib.TabIs Tryz.prog w "internal/strconv.uint64pow10" .u64 Lib.pow10Tab):
  Calls Tryz.prog 136 #[.int .i64 n] w fun e w'=>e= .returned (.string ⟨(Lib.itoa n).toArray⟩) /\ ∃k t,w'=grow (w.drewN k) t:=Any.strconv_Itoa Tryz.CY n h0 h1 w h
def Tryz.CZ:Go.Shelf.Ren:=⟨fun | 14=>176 | 16=>194 | 17=>195 | 19=>215 | 20=>216 | 21=>217 | 22=>218 | 23=>219 | 24=>220 | 25=>232 | 27=>136 | 26=>233 | 28=>157 | 29=>181 | 30=>201 | 31=>202 | 32=>203 | 33=>204 | 35=>224 | 34=>223 | 36=>225 | 37=>226 | 38=>227 | 39=>234 | 40=>235 | n=>n,fun | 9=>9 | 3=>3 | 22=>163 | 24=>210 | 25=>224 | 4=>4 | 34=>255 | 5=>5 | 36=>120 | 37=>179 | 0=>0 | 39=>257 | 21=>21 | 44=>270 | 47=>233 | 50=>274 | 48=>272 | 2=>2 | 52=>244 | 55=>247 | 59=>261 | 60=>160 | 20=>20 | 61=>262 | 65=>275 | 66=>276 | 67=>155 | n=>n,fun | 0=>4 | 1=>5 | 2=>1 | 3=>6 | 4=>7 | n=>n⟩
theorem Tryz.D5:Go.Proofs.LaysPu.n14 Tryz.prog Tryz.CZ:=by constructor <;> first | kernel_rfl | (intro w;kernel_rfl) | decide
open Go.RowKit in
theorem Tryz.strconv_ParseUint_10_at32_ok(s:ByteArray)(t:s.size <= 9223372036854775806)(u:Nat)(h:Lib.parseUintB 32 s.data.toList= .ok u)(w:World):
  Calls Tryz.prog 176 #[.string s, .int .i64 10, .int .i64 32] w fun e w'=>e= .returned (.tuple #[.int .u64 u, .nilIface]) /\ (w'=w \/ w'=Lib.bytesWorld w 5 s):=Any.strconv_ParseUint_10_at32_ok Tryz.D5 s t u h w
def Tryz.D7:Go.Shelf.Ren:=⟨fun | 145=>144 | 220=>164 | 219=>187 | 217=>207 | 225=>208 | 224=>209 | 267=>210 | 266=>228 | 314=>229 | n=>n,fun | 9=>9 | 4=>4 | 59=>196 | 3=>3 | 5=>5 | 46=>120 | 146=>161 | 51=>160 | n=>n,fun | 1=>0 | n=>n⟩
theorem Tryz.D8:Go.Proofs.Lays.n145 Tryz.prog Tryz.D7:=by constructor <;> first | kernel_rfl | (intro w;kernel_rfl) | decide
open Go.RowKit Go.Lib in
theorem Tryz.strings_Cut(s h:ByteArray)(m:Int)(w:World)(E:s.size<4294967281)(t: w.cell? ⟨0,0,none⟩=some (.int .i64 m)):
  Calls Tryz.prog 144 #[.string s, .string h] w fun e w'=>e= .returned (.tuple #[.string ⟨(Lib.cut s.data.toList h.data.toList).1.toArray⟩, .string ⟨(Lib.cut s.data.toList h.data.toList).2.1.toArray⟩, .bool (Lib.cut s.data.toList h.data.toList).2.2]) /\ ∃n,w'=w.drewN n:=Any.strings_Cut Tryz.D8 s h m w E t
def Tryz.D9:Go.Shelf.Ren:=⟨fun | 145=>144 | 220=>164 | 219=>187 | 217=>207 | 225=>208 | 224=>209 | 267=>210 | 266=>228 | 314=>229 | n=>n,fun | 9=>9 | 4=>4 | 59=>196 | 3=>3 | 5=>5 | 46=>120 | 146=>161 | 51=>160 | n=>n,fun | 1=>0 | n=>n⟩
theorem Tryz.Da:Go.Proofs.LaysM.n145 Tryz.prog Tryz.D9:=by constructor <;> first | kernel_rfl | (intro w;kernel_rfl) | exact fun w h=>Go.Proofs.cell_of_shapedOpen_int (zero:= #[.int .i64 0]) (t:=3) h (of_decide_eq_true (by kernel_rfl)) (by kernel_rfl) rfl (by kernel_rfl) (by kernel_rfl) Tryz.underlying3 | (constructor <;> first | kernel_rfl | (intro w;kernel_rfl) | exact fun w h=>Go.Proofs.cell_of_shapedOpen_int (zero:= #[.int .i64 0]) (t:=3) h (of_decide_eq_true (by kernel_rfl)) (by kernel_rfl) rfl (by kernel_rfl) (by kernel_rfl) Tryz.underlying3 | decide) | decide
def Tryz.Db:Go.Shelf.Ren:=⟨fun | 17=>174 | 15=>193 | 20=>214 | n=>n,fun | 9=>9 | 23=>223 | 4=>4 | 3=>3 | 0=>0 | 21=>21 | n=>n,fun | n=>n⟩
theorem Tryz.Dc:Go.Proofs.LaysGw.n17 Tryz.prog Tryz.Db:=by constructor <;> first | kernel_rfl | (intro w;kernel_rfl) | decide
open Go.RowKit Go.Lib in
theorem Tryz.strings_ContainsFunc_runes(g:Nat)(lb:Array Value)(h:∀args w,(callFunc g args).run Tryz.prog w= .ok (.enter g args) w)(p:Nat -> Bool)(s:ByteArray)(w:World)(t:PredAtRunes Tryz.prog g lb p w):
  Calls Tryz.prog 174 #[.string s, .func (.func g) #[] lb] w fun e w'=>e= .returned (.bool (decide (0 <= Lib.idxFunc p true s))) /\ Below w.heap.size w w':=Any.strings_ContainsFunc_runes Tryz.Dc g lb h p s w t
def Tryz.De:Go.Shelf.Ren:=⟨fun | 101=>146 | 208=>165 | 206=>182 | n=>n,fun | 9=>9 | 4=>4 | 3=>3 | n=>n,fun | n=>n⟩
theorem Tryz.Df:Go.Proofs.Lays.n101 Tryz.prog Tryz.De:=by constructor <;> first | kernel_rfl | (intro w;kernel_rfl) | decide
open Go.RowKit Go.Lib in
theorem Tryz.strings_TrimPrefix(s p:ByteArray)(w:World):
  Calls Tryz.prog 146 #[.string s, .string p] w fun e w'=>e= .returned (.string ⟨(Lib.trimPrefix s.data.toList p.data.toList).toArray⟩) /\ w'=w:=Any.strings_TrimPrefix Tryz.Df s p w
def Tryz.wZ:Go.Shelf.Ren:=⟨fun | 105=>137 | 212=>79 | 99=>158 | 165=>159 | 166=>160 | 170=>161 | 169=>162 | 263=>115 | 264=>116 | 206=>182 | 240=>183 | 241=>184 | 276=>205 | 277=>206 | n=>n,fun | 9=>9 | 3=>3 | 4=>4 | 20=>20 | 0=>0 | 46=>120 | 109=>121 | 5=>5 | 72=>207 | 76=>211 | 51=>160 | 146=>161 | 53=>163 | 148=>164 | 70=>205 | 37=>179 | 75=>210 | 127=>233 | 164=>249 | 80=>155 | n=>n,fun | n=>n⟩
theorem Tryz.Dg:Go.Proofs.Lays.n105 Tryz.prog Tryz.wZ:=by constructor <;> first | kernel_rfl | (intro w;kernel_rfl) | decide
theorem Tryz.Dh:Builder.Extra Tryz.prog Tryz.wZ:=by constructor <;> first | kernel_rfl | (intro w;kernel_rfl) | (constructor <;> first | kernel_rfl | (intro w;kernel_rfl) | decide) | decide
open Go.RowKit Go.Lib in
theorem Tryz.strings_Repeat(s:ByteArray)(c:Nat)(w:World)(h:c <= 9223372036854775807)(t:s.size*c <= 140737488355328):
  Calls Tryz.prog 137 #[.string s, .int .i64 c] w fun e w'=>e= .returned (.string ⟨(Lib.repeatL s.data.toList c).toArray⟩) /\ Below w.heap.size w w':=Any.strings_Repeat Tryz.Dg Tryz.Dh s c w h t
def Tryz.Di:Go.Shelf.Ren:=⟨fun | 17=>138 | n=>n,fun | 24=>152 | 9=>9 | 3=>3 | 4=>4 | 0=>0 | n=>n,fun | n=>n⟩
theorem Tryz.Dj:Go.Proofs.Lays2.n17 Tryz.prog Tryz.Di:=by constructor <;> first | kernel_rfl | (intro w;kernel_rfl) | decide
open Go.RowKit Go.Lib Go.Sort in
theorem Tryz.slices_Reverse_string_cells(b h n c:Nat)(t:Nat -> ByteArray)(w:World)(E:n <= 9223372036854775807)(F:∀i,i<n -> w.cell? ⟨b,h+i,none⟩=some (.string (t i)))(G:∀j,j<n -> w.frozen? ⟨b,h+j,none⟩=false):
  Calls Tryz.prog 138 #[.slice (some ⟨b,h,none⟩) n c] w fun e w'=>e= .returned (.tuple #[]) /\ ∃q,w'=(w.drewN q).setCells b h ((Lib.strsOf t n).reverse.map encStr):=Any.slices_Reverse_string_cells Tryz.Dj b h n c t w E F G
def Tryz.Dk:Go.Shelf.Ren:=⟨fun | 41=>222 | n=>n,fun | 22=>101 | 23=>160 | 4=>4 | n=>n,fun | n=>n⟩
theorem Tryz.Dl:Go.Proofs.SlLaysE0.n41 Tryz.prog Tryz.Dk:=by constructor <;> first | kernel_rfl | (intro w;kernel_rfl) | exact⟨Tryz.f222.name,by decide,Tryz.func222.trans (congrArg some (by kernel_rfl))⟩ | decide
open Go.RowKit Go.Lib in
theorem Tryz.slices_Clone(h:TypeInfo)(z:Value)(size E:Nat)(O: Tryz.prog.info? 160=some h)(X:h.zero=some z)(Y:h.size=size)(Z:h.bytes=E)(a0:z.cells.size=size)(U:0<size)(a1:∀w,(Go.sizeOf 160).run Tryz.prog w= .ok size w)(b F n c:Nat)(t:List Value)(w:World)(R:t.length=n*size)(T:n <= maxLen)(G:n*E <= 140737488355328)(M:∀j u,t[j]? =some u -> w.cell? ⟨b,F+j,none⟩=some u)(h1:∀u ∈ t,u.oneCell'=true):
  Calls Tryz.prog 222 #[.slice (some ⟨b,F,none⟩) n c] w fun e w'=>∃v',e= .returned v' /\ w'.ownsRow w.heap.size 160 size v' n t /\ v'≠ .slice none 0 0 /\ Below w.heap.size w w':=AnyE.slices_Clone Tryz.Dl h z size E O X Y Z a0 U a1 b F n c t w R T G M h1
end Go.Proofs
