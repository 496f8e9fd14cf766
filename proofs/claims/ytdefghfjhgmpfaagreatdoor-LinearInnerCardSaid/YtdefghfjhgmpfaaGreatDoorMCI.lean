/- Parts of this proof: ShelfD. -/
import Derived.Test.YtdefghfjhgmpfaaGreatDoorMAA
import Derived.Shelf.Strings.Builder1
import Derived.Shelf.Strings.Builder2
import Derived.Shelf.Strings.OnBuilder
import Derived.Shelf.Strings.Trim
import Derived.Shelf.Small.Utf8
import Derived.Shelf.Small.Bits
import Derived.Shelf.Small.Strs
import Derived.Shelf.Small.Wraps
import Derived.Shelf.Strings.BuilderF
import Derived.Shelf.Strconv.Itoa0
import Derived.Shelf.Strconv.Itoa1
import Derived.Shelf.LaysM
import Derived.Shelf.Strconv.Itoa2
import Derived.Shelf.Strconv.Itoa3
import Derived.Ground.MpProg
import Derived.Shelf.Pu.ParseUintPublic10
import Derived.Shelf.Strings.Search1
import Derived.Shelf.Strings.Search2
import Derived.Shelf.Strings.Cut
import Derived.Shelf.Strings.Shaped
import Derived.Shelf.GgClosure.StringsIndexFunc
import Derived.Ground.GgwProg
import Derived.Shelf.GgClosure.StringsIndexFuncTop
import Derived.Shelf.GgClosure.StringsRunes
import Derived.Shelf.Strings.Prefix
import Derived.Shelf.Unicode.Decode
import Derived.Shelf.Strings.Runes
import Derived.Shelf.Strings.AsciiSet
import Derived.Shelf.Bits.Mul64
import Derived.Shelf.Strings.Repeat
import Derived.Shelf.Unicode.DecodeSlow
import Derived.Shelf.Unicode.DecodeAny
import Derived.Shelf.Unicode.DecodeLast
import Derived.Ground.Names2Prog
import Derived.Shelf.Slices.ReverseS
import Derived.Shelf.Slices.Cells
import Derived.Ground.SlgnProg
import Derived.Shelf.SlicesE.Equal
import Derived.Shelf.SlicesE.Clone
import Derived.Ground.SlgfProg
import Derived.Shelf.SlicesE.IndexFunc
import Derived.Shelf.SlicesE.DeleteFunc
import Derived.Test.YtdefghfjhgmpfaaGreatDoorProg
namespace Go.Proofs
open Go.Shelf
def Tryz.KH:Go.Shelf.Ren:=⟨fun | 212=>79 | 263=>115 | 264=>116 | n=>n,fun | 46=>120 | 51=>160 | 146=>161 | 53=>163 | 148=>164 | n=>n,fun | n=>n⟩
theorem Tryz.KI:Go.Proofs.Lays.n212 Tryz.prog Tryz.KH:=by constructor <;> first | kernel_rfl | (intro w;kernel_rfl) | decide
open Go.RowKit Go.Lib in
theorem Tryz.bits_Mul(x y:Nat)(h:x<18446744073709551616)(t:y<18446744073709551616)(w:World):
    Calls Tryz.prog 79 #[.int .u64 x, .int .u64 y] w fun e w'=>e= .returned (.tuple #[.int .u64 ((x*y / 18446744073709551616:Nat):Int), .int .u64 ((x*y%18446744073709551616:Nat):Int)]) /\ w'=w:=Any.bits_Mul Tryz.KI x y h t w
end Go.Proofs
