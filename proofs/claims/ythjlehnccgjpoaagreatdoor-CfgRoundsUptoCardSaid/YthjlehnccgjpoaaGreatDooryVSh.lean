/- Lemmas. -/
import Derived.Shelf.Strconv.ParseIntPublic10
import Derived.Shelf.Unicode.DecodeAny
import Derived.Shelf.LaysM
import Derived.Shelf.Strconv.Itoa3
import Derived.Shelf.Strconv.Itoa4
import Derived.Shelf.Strings.Repeat
import Derived.Shelf.Unicode.ValidAny
import Derived.Test.YthjlehnccgjpoaaGreatDoorProg
namespace Go.Proofs
open Go.Shelf
def Tryz.c1g:Go.Shelf.Ren:=⟨fun | 196=>173 | 259=>181 | n=>n,fun | 9=>9 | 4=>4 | 3=>3 | 5=>5 | 12=>12 | 119=>257 | 0=>0 | 46=>203 | 139=>260 | 138=>259 | 53=>208 | n=>n,fun | 3=>1 | 4=>2 | n=>n⟩
theorem Tryz.c9I:Go.Proofs.Lays.n196 Tryz.prog Tryz.c1g:=by constructor<;>first|kernel_rfl|(intro w;kernel_rfl)|(constructor<;>first|kernel_rfl|(intro w;kernel_rfl)|(constructor<;>first|kernel_rfl|(intro w;kernel_rfl)|decide)|decide)|decide
open Go.RowKit Go.Sort
def Tryz.c6B:Go.Shelf.Ren:=⟨fun | 171=>23 | 243=>46 | 246=>81 | 283=>115 | 284=>116 | 285=>117 | 286=>118 | 129=>154 | 317=>153 | 318=>155 | 319=>156 | 320=>157 | 337=>176 | 338=>177 | n=>n,fun | 3=>3 | 9=>9 | 2=>2 | 4=>4 | 171=>207 | 0=>0 | 53=>208 | 37=>79 | 5=>5 | 173=>211 | 212=>242 | 51=>234 | 20=>20 | 213=>243 | 46=>203 | 232=>265 | 233=>266 | n=>n,fun | 17=>0 | 18=>4 | 19=>5 | n=>n⟩
theorem Tryz.d5w:Go.Proofs.LaysM.n171 Tryz.prog Tryz.c6B:=by constructor<;>first|kernel_rfl|(intro w;kernel_rfl)|(constructor<;>first|kernel_rfl|(intro w;kernel_rfl)|(constructor<;>first|kernel_rfl|(intro w;kernel_rfl)|decide)|decide)|decide
theorem Tryz.strconv_Itoa (n : Int) (h0 : -9223372036854775808 <= n) (h1 : n <= 9223372036854775807) (w : World) (htab : Lib.TabIs Tryz.prog w "internal/strconv.uint64pow10" .u64 Lib.pow10Tab) :
  Calls Tryz.prog 23 #[.int .i64 n] w λe w'=>e=.returned (.string ⟨(Lib.itoa n).toArray⟩)/\∃k os,w'=grow (w.drewN k) os:=Any.strconv_Itoa Tryz.d5w n h0 h1 w htab
def Tryz.c6C:Go.Shelf.Ren:=⟨fun | 173=>83 | 246=>81 | 283=>115 | 284=>116 | 285=>117 | 286=>118 | 129=>154 | 317=>153 | 318=>155 | 319=>156 | 320=>157 | 337=>176 | 338=>177 | n=>n,fun | 2=>2 | 3=>3 | 9=>9 | 4=>4 | 171=>207 | 0=>0 | 53=>208 | 37=>79 | 5=>5 | 173=>211 | 212=>242 | 51=>234 | 20=>20 | 213=>243 | 46=>203 | 232=>265 | 233=>266 | n=>n,fun | 17=>0 | 18=>4 | 19=>5 | n=>n⟩
theorem Tryz.d5x:Go.Proofs.LaysM.n173 Tryz.prog Tryz.c6C:=by constructor<;>first|kernel_rfl|(intro w;kernel_rfl)|(constructor<;>first|kernel_rfl|(intro w;kernel_rfl)|(constructor<;>first|kernel_rfl|(intro w;kernel_rfl)|decide)|decide)|decide
theorem Tryz.strconv_FormatInt_10 (n : Int) (h0 : -9223372036854775808 <= n) (h1 : n <= 9223372036854775807) (w : World) (htab : Lib.TabIs Tryz.prog w "internal/strconv.uint64pow10" .u64 Lib.pow10Tab) :
  Calls Tryz.prog 83 #[.int .i64 n,.int .i64 10] w λe w'=>e=.returned (.string ⟨(Lib.itoa n).toArray⟩)/\∃k os,w'=grow (w.drewN k) os:=Any.strconv_FormatInt_10 Tryz.d5x n h0 h1 w htab
def Tryz.c6D:Go.Shelf.Ren:=⟨fun | 174=>168 | 247=>179 | 245=>180 | 287=>182 | 279=>183 | 280=>184 | 281=>185 | 282=>186 | 321=>187 | 322=>188 | 316=>189 | 171=>23 | 205=>190 | 243=>46 | 246=>81 | 283=>115 | 284=>116 | 285=>117 | 286=>118 | 129=>154 | 317=>153 | 318=>155 | 319=>156 | 320=>157 | 337=>176 | 338=>177 | n=>n,fun | 9=>9 | 3=>3 | 2=>2 | 75=>156 | 85=>248 | 4=>4 | 167=>267 | 5=>5 | 53=>208 | 175=>268 | 46=>203 | 168=>270 | 37=>79 | 0=>0 | 210=>276 | 21=>21 | 127=>117 | 145=>280 | 143=>278 | 171=>207 | 173=>211 | 212=>242 | 51=>234 | 20=>20 | 213=>243 | 232=>265 | 233=>266 | 80=>87 | n=>n,fun | 15=>6 | 16=>7 | 17=>0 | 18=>4 | 19=>5 | n=>n⟩
theorem Tryz.c6E:Go.Proofs.LaysC.n174 Tryz.prog Tryz.c6D:=by constructor<;>first|kernel_rfl|(intro w;kernel_rfl)|(constructor<;>first|kernel_rfl|(intro w;kernel_rfl)|(constructor<;>first|kernel_rfl|(intro w;kernel_rfl)|decide)|decide)|decide
def Tryz.c8p:Go.Shelf.Ren:=⟨fun | 197=>123 | 260=>159 | n=>n,fun | 9=>9 | 21=>21 | 3=>3 | 4=>4 | 5=>5 | 105=>217 | 119=>257 | 0=>0 | 46=>203 | 139=>260 | 138=>259 | n=>n,fun | 3=>1 | 4=>2 | n=>n⟩
theorem Tryz.e0j:Go.Proofs.Lays.n197 Tryz.prog Tryz.c8p:=by constructor<;>first|kernel_rfl|(intro w;kernel_rfl)|(constructor<;>first|kernel_rfl|(intro w;kernel_rfl)|(constructor<;>first|kernel_rfl|(intro w;kernel_rfl)|decide)|decide)|decide
def Tryz.c1h:Go.Shelf.Ren:=⟨fun | 105=>79 | 212=>111 | 99=>112 | 165=>113 | 166=>80 | 170=>52 | 169=>26 | 263=>148 | 264=>149 | 206=>150 | 240=>114 | 241=>151 | 276=>152 | 277=>175 | n=>n,fun | 9=>9 | 3=>3 | 4=>4 | 20=>20 | 0=>0 | 46=>203 | 109=>204 | 5=>5 | 72=>81 | 76=>157 | 51=>234 | 146=>235 | 53=>208 | 148=>237 | 70=>78 | 37=>79 | 75=>156 | 127=>117 | 164=>239 | 80=>87 | n=>n,fun | n=>n⟩
theorem Tryz.e0k:Go.Proofs.Lays.n105 Tryz.prog Tryz.c1h:=by constructor<;>first|kernel_rfl|(intro w;kernel_rfl)|(constructor<;>first|kernel_rfl|(intro w;kernel_rfl)|(constructor<;>first|kernel_rfl|(intro w;kernel_rfl)|decide)|decide)|decide
theorem Tryz.c1b:Builder.Extra Tryz.prog Tryz.c1h:=by constructor<;>first|kernel_rfl|(intro w;kernel_rfl)|(constructor<;>first|kernel_rfl|(intro w;kernel_rfl)|(constructor<;>first|kernel_rfl|(intro w;kernel_rfl)|decide)|decide)|decide
theorem Tryz.strings_Repeat(s:ByteArray)(c:Nat)(w:World)(hc:c<=9223372036854775807)(hlen:s.size*c<=140737488355328):
  Calls Tryz.prog 79 #[.string s,.int .i64 c] w λe w'=>e=.returned (.string ⟨(Lib.repeatL s.data.toList c).toArray⟩)/\Below w.heap.size w w':=Any.strings_Repeat Tryz.e0k Tryz.c1b s c w hc hlen
end Go.Proofs
