/- Lemmas. -/
import Derived.Ground.Names2Prog
import Derived.Shelf.Bits.Mul64
import Derived.Shelf.LaysM
import Derived.Shelf.Slices.Empties
import Derived.Shelf.Slices.SearchI
import Derived.Shelf.Slices.Turned
import Derived.Shelf.Small.Bits
import Derived.Shelf.Small.Strs
import Derived.Shelf.Small.Wraps
import Derived.Shelf.Strconv.Itoa0
import Derived.Shelf.Strconv.Itoa1
import Derived.Shelf.Strconv.Itoa2
import Derived.Shelf.Strconv.Itoa3
import Derived.Shelf.Strconv.Itoa4
import Derived.Shelf.Strings.Builder1
import Derived.Shelf.Strings.Builder2
import Derived.Shelf.Strings.BuilderF
import Derived.Shelf.Strings.BuilderK
import Derived.Shelf.Strings.Count
import Derived.Shelf.Strings.Explode
import Derived.Shelf.Strings.OnBuilder
import Derived.Shelf.Strings.Prefix
import Derived.Shelf.Strings.Repeat
import Derived.Shelf.Strings.RuneCount
import Derived.Shelf.Strings.Search1
import Derived.Shelf.Strings.Search2
import Derived.Shelf.Strings.Search3
import Derived.Shelf.Strings.Shaped
import Derived.Shelf.Strings.Split
import Derived.Shelf.Strings.SplitShaped
import Derived.Shelf.Unicode.Decode
import Derived.Shelf.Unicode.DecodeAny
import Derived.Shelf.Unicode.DecodeSlow
import Derived.Shelf.Utf8.RuneCount
import Derived.Test.YtpebkobmhhnojaaGreatDoorProg
import Derived.Test.YtpebkobmhhnojaaGreatDoorTp00
set_option linter.unusedSimpArgs false
set_option linter.unusedVariables false
set_option maxRecDepth 100000
set_option maxHeartbeats 12800000
namespace Go.Proofs
section
open Go.Shelf
open Go.RowKit in
def Tryz.lays169_ren:Go.Shelf.Ren:=⟨fun | 169=>49 | n=>n,fun | 70=>110 | 9=>9 | 0=>0 | 72=>113 | 37=>111 | 127=>165 | 3=>3 | 5=>5 | n=>n,fun | n=>n⟩
theorem Tryz.lays169:Go.Proofs.Lays.n169 Tryz.prog Tryz.lays169_ren:={
 mixed:=by kernel_rfl
 f169:=Tryz.func49.trans (congrArg some (by kernel_rfl))
 t0:=Tryz.underlying0
 a0:=Tryz.isAgg0
 z0:=Tryz.sizeOf0
 v0:=Tryz.zeroValue0
 t3:=Tryz.underlying3
 a3:=Tryz.isAgg3
 z3:=Tryz.sizeOf3
 v3:=Tryz.zeroValue3
 t9:=Tryz.underlying9
 a9:=Tryz.isAgg9
 z9:=Tryz.sizeOf9
 v9:=Tryz.zeroValue9
 t37:=Tryz.underlying111
 a37:=Tryz.isAgg111
 z37:=Tryz.sizeOf111
 v37:=Tryz.zeroValue111
 t70:=Tryz.underlying110
 a70:=Tryz.isAgg110
 z70:=Tryz.sizeOf110
 v70:=Tryz.zeroValue110
 t72:=Tryz.underlying113
 a72:=Tryz.isAgg113
 z72:=Tryz.sizeOf113
 v72:=Tryz.zeroValue113
 t127:=Tryz.underlying165
 a127:=Tryz.isAgg165
 z127:=Tryz.sizeOf165
 v127:=Tryz.zeroValue165 }
theorem Tryz.Builder_Extra_169:Builder.Extra Tryz.prog Tryz.lays169_ren:={
 sizeBuilder:=by kernel_rfl
 liesBuilder:=by kernel_rfl
 t5:=Tryz.underlying5
 a5:=Tryz.isAgg5
 z5:=Tryz.sizeOf5
 v5:=Tryz.zeroValue5
 infoByte:=by kernel_rfl
 cellsByte:=by kernel_rfl
 sizeByte:=by kernel_rfl
 neB5:=by decide }
open Go.RowKit in
theorem Tryz.Builder_String_any (B b:Nat) (l:List UInt8) (w:World) (h:Lib.IsBuilder 113 5 B b (Lib.byteCells l) w) (f:B≤w.heap.size) :
  Calls Tryz.prog 49 #[.pointer (some ⟨b,0,none⟩)] w fun e w'=>e=.returned (.string ⟨l.toArray⟩)∧Below B w w':=Any.Builder_String_any Tryz.lays169 Tryz.Builder_Extra_169 B b l w h f
open Go.RowKit in
open Go.RowKit in
def Tryz.lays156_ren:Go.Shelf.Ren:=⟨fun | 156=>165 | 165=>215 | 166=>48 | 169=>49 | 240=>81 | 241=>246 | 276=>120 | 277=>267 | n=>n,fun | 31=>108 | 9=>9 | 3=>3 | 4=>4 | 0=>0 | 20=>20 | 72=>113 | 76=>118 | 70=>110 | 37=>111 | 75=>117 | 127=>165 | 164=>232 | 5=>5 | 80=>120 | n=>n,fun | n=>n⟩
theorem Tryz.lays156:Go.Proofs.Lays.n156 Tryz.prog Tryz.lays156_ren:={
 mixed:=by kernel_rfl
 f156:=Tryz.func165.trans (congrArg some (by kernel_rfl))
 f165:=Tryz.func215.trans (congrArg some (by kernel_rfl))
 f166:=Tryz.func48.trans (congrArg some (by kernel_rfl))
 f169:=Tryz.func49.trans (congrArg some (by kernel_rfl))
 f240:=Tryz.func81.trans (congrArg some (by kernel_rfl))
 f241:=Tryz.func246.trans (congrArg some (by kernel_rfl))
 f276:=Tryz.func120.trans (congrArg some (by kernel_rfl))
 f277:=Tryz.func267.trans (congrArg some (by kernel_rfl))
 t0:=Tryz.underlying0
 a0:=Tryz.isAgg0
 z0:=Tryz.sizeOf0
 v0:=Tryz.zeroValue0
 t3:=Tryz.underlying3
 a3:=Tryz.isAgg3
 z3:=Tryz.sizeOf3
 v3:=Tryz.zeroValue3
 t4:=Tryz.underlying4
 a4:=Tryz.isAgg4
 z4:=Tryz.sizeOf4
 v4:=Tryz.zeroValue4
 t9:=Tryz.underlying9
 a9:=Tryz.isAgg9
 z9:=Tryz.sizeOf9
 v9:=Tryz.zeroValue9
 t20:=Tryz.underlying20
 a20:=Tryz.isAgg20
 z20:=Tryz.sizeOf20
 v20:=Tryz.zeroValue20
 t31:=Tryz.underlying108
 a31:=Tryz.isAgg108
 z31:=Tryz.sizeOf108
 v31:=Tryz.zeroValue108
 t37:=Tryz.underlying111
 a37:=Tryz.isAgg111
 z37:=Tryz.sizeOf111
 v37:=Tryz.zeroValue111
 t70:=Tryz.underlying110
 a70:=Tryz.isAgg110
 z70:=Tryz.sizeOf110
 v70:=Tryz.zeroValue110
 t72:=Tryz.underlying113
 a72:=Tryz.isAgg113
 z72:=Tryz.sizeOf113
 v72:=Tryz.zeroValue113
 t75:=Tryz.underlying117
 a75:=Tryz.isAgg117
 z75:=Tryz.sizeOf117
 v75:=Tryz.zeroValue117
 t76:=Tryz.underlying118
 a76:=Tryz.isAgg118
 z76:=Tryz.sizeOf118
 v76:=Tryz.zeroValue118
 t127:=Tryz.underlying165
 a127:=Tryz.isAgg165
 z127:=Tryz.sizeOf165
 v127:=Tryz.zeroValue165
 t164:=Tryz.underlying232
 a164:=Tryz.isAgg232
 z164:=Tryz.sizeOf232
 v164:=Tryz.zeroValue232 }
theorem Tryz.Builder_Extra_156:Builder.Extra Tryz.prog Tryz.lays156_ren:={
 sizeBuilder:=by kernel_rfl
 liesBuilder:=by kernel_rfl
 t5:=Tryz.underlying5
 a5:=Tryz.isAgg5
 z5:=Tryz.sizeOf5
 v5:=Tryz.zeroValue5
 infoByte:=by kernel_rfl
 cellsByte:=by kernel_rfl
 sizeByte:=by kernel_rfl
 neB5:=by decide }
open Go.RowKit in
theorem Tryz.strings_Join (H o c:Nat) (E:List ByteArray) (h:ByteArray) (w:World) (f:∀ (j:Nat) x,E[j]?=some x→w.cell? ⟨H,o+j,none⟩=some (.string x)) (I:H<w.heap.size) (J:E.length≤140737488355328) (F:E.length≤c) (G:(Lib.join (E.map (·.data.toList)) h.data.toList).length≤140737488355328) :
  Calls Tryz.prog 165 #[.slice (some ⟨H,o,none⟩) E.length c,.string h] w fun e w'=>e=.returned (.string ⟨(Lib.join (E.map (·.data.toList)) h.data.toList).toArray⟩)∧Below w.heap.size w w':=Any.strings_Join Tryz.lays156 Tryz.Builder_Extra_156 H o c E h w f I J F G
def Tryz.lays103_ren:Go.Shelf.Ren:=⟨fun | 103=>241 | 210=>264 | 206=>280 | n=>n,fun | 9=>9 | 4=>4 | 24=>344 | 3=>3 | n=>n,fun | n=>n⟩
theorem Tryz.lays103:Go.Proofs.Lays.n103 Tryz.prog Tryz.lays103_ren:={
 mixed:=by kernel_rfl
 f103:=Tryz.func241.trans (congrArg some (by kernel_rfl))
 f206:=Tryz.func280.trans (congrArg some (by kernel_rfl))
 f210:=Tryz.func264.trans (congrArg some (by kernel_rfl))
 t3:=Tryz.underlying3
 a3:=Tryz.isAgg3
 z3:=Tryz.sizeOf3
 v3:=Tryz.zeroValue3
 t4:=Tryz.underlying4
 a4:=Tryz.isAgg4
 z4:=Tryz.sizeOf4
 v4:=Tryz.zeroValue4
 t9:=Tryz.underlying9
 a9:=Tryz.isAgg9
 z9:=Tryz.sizeOf9
 v9:=Tryz.zeroValue9
 t24:=Tryz.underlying344
 a24:=Tryz.isAgg344
 z24:=Tryz.sizeOf344
 v24:=Tryz.zeroValue344 }
open Go.RowKit in
theorem Tryz.strings_CutPrefix (s p:ByteArray) (w:World) :
  Calls Tryz.prog 241 #[.string s,.string p] w fun e w'=>e=.returned (.tuple #[.string ⟨(Lib.trimPrefix s.data.toList p.data.toList).toArray⟩,.bool (Lib.hasPrefix s.data.toList p.data.toList)])∧w'=w:=Any.strings_CutPrefix Tryz.lays103 s p w
def Tryz.laysM171_ren:Go.Shelf.Ren:=⟨fun | 171=>80 | 243=>119 | 246=>183 | 283=>224 | 284=>225 | 285=>226 | 286=>227 | 129=>258 | 317=>257 | 318=>259 | 319=>260 | 320=>261 | 337=>277 | 338=>278 | n=>n,fun | 3=>3 | 9=>9 | 2=>2 | 4=>4 | 171=>317 | 0=>0 | 53=>98 | 37=>111 | 5=>5 | 173=>320 | 212=>361 | 51=>334 | 20=>20 | 213=>362 | 46=>146 | 232=>376 | 233=>377 | n=>n,fun | 17=>3 | 18=>6 | 19=>7 | n=>n⟩
theorem Tryz.laysM171:Go.Proofs.LaysM.n171 Tryz.prog Tryz.laysM171_ren:={
 mixed:=by kernel_rfl
 f129:=Tryz.func258.trans (congrArg some (by kernel_rfl))
 f171:=Tryz.func80.trans (congrArg some (by kernel_rfl))
 f243:=Tryz.func119.trans (congrArg some (by kernel_rfl))
 f246:=Tryz.func183.trans (congrArg some (by kernel_rfl))
 f283:=Tryz.func224.trans (congrArg some (by kernel_rfl))
 f284:=Tryz.func225.trans (congrArg some (by kernel_rfl))
 f285:=Tryz.func226.trans (congrArg some (by kernel_rfl))
 f286:=Tryz.func227.trans (congrArg some (by kernel_rfl))
 f317:=Tryz.func257.trans (congrArg some (by kernel_rfl))
 f318:=Tryz.func259.trans (congrArg some (by kernel_rfl))
 f319:=Tryz.func260.trans (congrArg some (by kernel_rfl))
 f320:=Tryz.func261.trans (congrArg some (by kernel_rfl))
 f337:=Tryz.func277.trans (congrArg some (by kernel_rfl))
 f338:=Tryz.func278.trans (congrArg some (by kernel_rfl))
 t0:=Tryz.underlying0
 a0:=Tryz.isAgg0
 z0:=Tryz.sizeOf0
 v0:=Tryz.zeroValue0
 t2:=Tryz.underlying2
 a2:=Tryz.isAgg2
 z2:=Tryz.sizeOf2
 v2:=Tryz.zeroValue2
 t3:=Tryz.underlying3
 a3:=Tryz.isAgg3
 z3:=Tryz.sizeOf3
 v3:=Tryz.zeroValue3
 t4:=Tryz.underlying4
 a4:=Tryz.isAgg4
 z4:=Tryz.sizeOf4
 v4:=Tryz.zeroValue4
 t5:=Tryz.underlying5
 a5:=Tryz.isAgg5
 z5:=Tryz.sizeOf5
 v5:=Tryz.zeroValue5
 t9:=Tryz.underlying9
 a9:=Tryz.isAgg9
 z9:=Tryz.sizeOf9
 v9:=Tryz.zeroValue9
 t20:=Tryz.underlying20
 a20:=Tryz.isAgg20
 z20:=Tryz.sizeOf20
 v20:=Tryz.zeroValue20
 t37:=Tryz.underlying111
 a37:=Tryz.isAgg111
 z37:=Tryz.sizeOf111
 v37:=Tryz.zeroValue111
 t46:=Tryz.underlying146
 a46:=Tryz.isAgg146
 z46:=Tryz.sizeOf146
 v46:=Tryz.zeroValue146
 t51:=Tryz.underlying334
 a51:=Tryz.isAgg334
 z51:=Tryz.sizeOf334
 v51:=Tryz.zeroValue334
 t53:=Tryz.underlying98
 a53:=Tryz.isAgg98
 z53:=Tryz.sizeOf98
 v53:=Tryz.zeroValue98
 t171:=Tryz.underlying317
 a171:=Tryz.isAgg317
 z171:=Tryz.sizeOf317
 v171:=Tryz.zeroValue317
 t173:=Tryz.underlying320
 a173:=Tryz.isAgg320
 z173:=Tryz.sizeOf320
 v173:=Tryz.zeroValue320
 t212:=Tryz.underlying361
 a212:=Tryz.isAgg361
 z212:=Tryz.sizeOf361
 v212:=Tryz.zeroValue361
 t213:=Tryz.underlying362
 a213:=Tryz.isAgg362
 z213:=Tryz.sizeOf362
 t232:=Tryz.underlying376
 a232:=Tryz.isAgg376
 z232:=Tryz.sizeOf376
 v232:=Tryz.zeroValue376
 t233:=Tryz.underlying377
 a233:=Tryz.isAgg377
 z233:=Tryz.sizeOf377
 v233:=Tryz.zeroValue377
 g17:=by kernel_rfl
 g18:=by kernel_rfl
 g19:=by kernel_rfl
 i0:=by kernel_rfl
 i2:=by kernel_rfl
 i3:=by kernel_rfl
 i4:=by kernel_rfl
 i5:=by kernel_rfl
 i9:=by kernel_rfl
 i20:=by kernel_rfl
 i37:=by kernel_rfl
 i46:=by kernel_rfl
 i51:=by kernel_rfl
 i53:=by kernel_rfl
 i171:=by kernel_rfl
 i173:=by kernel_rfl
 i212:=by kernel_rfl
 i232:=by kernel_rfl
 i233:=by kernel_rfl
 m17:=by kernel_rfl
 m18:=by kernel_rfl
 m19:=by kernel_rfl }
open Go.RowKit Go.Sort Go.Lib in
theorem Tryz.strconv_Itoa (n:Int) (h:-9223372036854775808≤n) (o:n≤9223372036854775807) (w:World) (f:Lib.TabIs Tryz.prog w "internal/strconv.uint64pow10" .u64 Lib.pow10Tab) :
  Calls Tryz.prog 80 #[.int .i64 n] w fun e w'=>e=.returned (.string ⟨(Lib.itoa n).toArray⟩)∧∃ k os,w'=grow (w.drewN k) os:=Any.strconv_Itoa Tryz.laysM171 n h o w f
def Tryz.lays171_ren:Go.Shelf.Ren:=⟨fun | 171=>80 | 243=>119 | 246=>183 | 283=>224 | 284=>225 | 285=>226 | 286=>227 | 129=>258 | 317=>257 | 318=>259 | 319=>260 | 320=>261 | 337=>277 | 338=>278 | n=>n,fun | 3=>3 | 9=>9 | 2=>2 | 4=>4 | 171=>317 | 0=>0 | 53=>98 | 37=>111 | 5=>5 | 173=>320 | 212=>361 | 51=>334 | 20=>20 | 213=>362 | 46=>146 | 232=>376 | 233=>377 | n=>n,fun | 17=>3 | 18=>6 | 19=>7 | n=>n⟩
theorem Tryz.lays171:Go.Proofs.Lays.n171 Tryz.prog Tryz.lays171_ren:={
 mixed:=by kernel_rfl
 f129:=Tryz.func258.trans (congrArg some (by kernel_rfl))
 f171:=Tryz.func80.trans (congrArg some (by kernel_rfl))
 f243:=Tryz.func119.trans (congrArg some (by kernel_rfl))
 f246:=Tryz.func183.trans (congrArg some (by kernel_rfl))
 f283:=Tryz.func224.trans (congrArg some (by kernel_rfl))
 f284:=Tryz.func225.trans (congrArg some (by kernel_rfl))
 f285:=Tryz.func226.trans (congrArg some (by kernel_rfl))
 f286:=Tryz.func227.trans (congrArg some (by kernel_rfl))
 f317:=Tryz.func257.trans (congrArg some (by kernel_rfl))
 f318:=Tryz.func259.trans (congrArg some (by kernel_rfl))
 f319:=Tryz.func260.trans (congrArg some (by kernel_rfl))
 f320:=Tryz.func261.trans (congrArg some (by kernel_rfl))
 f337:=Tryz.func277.trans (congrArg some (by kernel_rfl))
 f338:=Tryz.func278.trans (congrArg some (by kernel_rfl))
 t0:=Tryz.underlying0
 a0:=Tryz.isAgg0
 z0:=Tryz.sizeOf0
 v0:=Tryz.zeroValue0
 t2:=Tryz.underlying2
 a2:=Tryz.isAgg2
 z2:=Tryz.sizeOf2
 v2:=Tryz.zeroValue2
 t3:=Tryz.underlying3
 a3:=Tryz.isAgg3
 z3:=Tryz.sizeOf3
 v3:=Tryz.zeroValue3
 t4:=Tryz.underlying4
 a4:=Tryz.isAgg4
 z4:=Tryz.sizeOf4
 v4:=Tryz.zeroValue4
 t5:=Tryz.underlying5
 a5:=Tryz.isAgg5
 z5:=Tryz.sizeOf5
 v5:=Tryz.zeroValue5
 t9:=Tryz.underlying9
 a9:=Tryz.isAgg9
 z9:=Tryz.sizeOf9
 v9:=Tryz.zeroValue9
 t20:=Tryz.underlying20
 a20:=Tryz.isAgg20
 z20:=Tryz.sizeOf20
 v20:=Tryz.zeroValue20
 t37:=Tryz.underlying111
 a37:=Tryz.isAgg111
 z37:=Tryz.sizeOf111
 v37:=Tryz.zeroValue111
 t46:=Tryz.underlying146
 a46:=Tryz.isAgg146
 z46:=Tryz.sizeOf146
 v46:=Tryz.zeroValue146
 t51:=Tryz.underlying334
 a51:=Tryz.isAgg334
 z51:=Tryz.sizeOf334
 v51:=Tryz.zeroValue334
 t53:=Tryz.underlying98
 a53:=Tryz.isAgg98
 z53:=Tryz.sizeOf98
 v53:=Tryz.zeroValue98
 t171:=Tryz.underlying317
 a171:=Tryz.isAgg317
 z171:=Tryz.sizeOf317
 v171:=Tryz.zeroValue317
 t173:=Tryz.underlying320
 a173:=Tryz.isAgg320
 z173:=Tryz.sizeOf320
 v173:=Tryz.zeroValue320
 t212:=Tryz.underlying361
 a212:=Tryz.isAgg361
 z212:=Tryz.sizeOf361
 v212:=Tryz.zeroValue361
 t213:=Tryz.underlying362
 a213:=Tryz.isAgg362
 z213:=Tryz.sizeOf362
 t232:=Tryz.underlying376
 a232:=Tryz.isAgg376
 z232:=Tryz.sizeOf376
 v232:=Tryz.zeroValue376
 t233:=Tryz.underlying377
 a233:=Tryz.isAgg377
 z233:=Tryz.sizeOf377
 v233:=Tryz.zeroValue377
 g17:=by kernel_rfl
 g18:=by kernel_rfl
 g19:=by kernel_rfl }
open Go.RowKit Go.Sort Go.Lib in
theorem Tryz.strconv_Itoa_small (i:Nat) (hi:i<100) (w:World) :
  Calls Tryz.prog 80 #[.int .i64 i] w fun e w'=>e=.returned (.string ⟨(Lib.decDigits i).toArray⟩)∧w'=w:=Any.strconv_Itoa_small Tryz.lays171 i hi w
def Tryz.lays173_ren:Go.Shelf.Ren:=⟨fun | 173=>245 | 246=>183 | 283=>224 | 284=>225 | 285=>226 | 286=>227 | 129=>258 | 317=>257 | 318=>259 | 319=>260 | 320=>261 | 337=>277 | 338=>278 | n=>n,fun | 2=>2 | 3=>3 | 9=>9 | 4=>4 | 171=>317 | 0=>0 | 53=>98 | 37=>111 | 5=>5 | 173=>320 | 212=>361 | 51=>334 | 20=>20 | 213=>362 | 46=>146 | 232=>376 | 233=>377 | n=>n,fun | 17=>3 | 18=>6 | 19=>7 | n=>n⟩
theorem Tryz.lays173:Go.Proofs.Lays.n173 Tryz.prog Tryz.lays173_ren:={
 mixed:=by kernel_rfl
 f129:=Tryz.func258.trans (congrArg some (by kernel_rfl))
 f173:=Tryz.func245.trans (congrArg some (by kernel_rfl))
 f246:=Tryz.func183.trans (congrArg some (by kernel_rfl))
 f283:=Tryz.func224.trans (congrArg some (by kernel_rfl))
 f284:=Tryz.func225.trans (congrArg some (by kernel_rfl))
 f285:=Tryz.func226.trans (congrArg some (by kernel_rfl))
 f286:=Tryz.func227.trans (congrArg some (by kernel_rfl))
 f317:=Tryz.func257.trans (congrArg some (by kernel_rfl))
 f318:=Tryz.func259.trans (congrArg some (by kernel_rfl))
 f319:=Tryz.func260.trans (congrArg some (by kernel_rfl))
 f320:=Tryz.func261.trans (congrArg some (by kernel_rfl))
 f337:=Tryz.func277.trans (congrArg some (by kernel_rfl))
 f338:=Tryz.func278.trans (congrArg some (by kernel_rfl))
 t0:=Tryz.underlying0
 a0:=Tryz.isAgg0
 z0:=Tryz.sizeOf0
 v0:=Tryz.zeroValue0
 t2:=Tryz.underlying2
 a2:=Tryz.isAgg2
 z2:=Tryz.sizeOf2
 v2:=Tryz.zeroValue2
 t3:=Tryz.underlying3
 a3:=Tryz.isAgg3
 z3:=Tryz.sizeOf3
 v3:=Tryz.zeroValue3
 t4:=Tryz.underlying4
 a4:=Tryz.isAgg4
 z4:=Tryz.sizeOf4
 v4:=Tryz.zeroValue4
 t5:=Tryz.underlying5
 a5:=Tryz.isAgg5
 z5:=Tryz.sizeOf5
 v5:=Tryz.zeroValue5
 t9:=Tryz.underlying9
 a9:=Tryz.isAgg9
 z9:=Tryz.sizeOf9
 v9:=Tryz.zeroValue9
 t20:=Tryz.underlying20
 a20:=Tryz.isAgg20
 z20:=Tryz.sizeOf20
 v20:=Tryz.zeroValue20
 t37:=Tryz.underlying111
 a37:=Tryz.isAgg111
 z37:=Tryz.sizeOf111
 v37:=Tryz.zeroValue111
 t46:=Tryz.underlying146
 a46:=Tryz.isAgg146
 z46:=Tryz.sizeOf146
 v46:=Tryz.zeroValue146
 t51:=Tryz.underlying334
 a51:=Tryz.isAgg334
 z51:=Tryz.sizeOf334
 v51:=Tryz.zeroValue334
 t53:=Tryz.underlying98
 a53:=Tryz.isAgg98
 z53:=Tryz.sizeOf98
 v53:=Tryz.zeroValue98
 t171:=Tryz.underlying317
 a171:=Tryz.isAgg317
 z171:=Tryz.sizeOf317
 v171:=Tryz.zeroValue317
 t173:=Tryz.underlying320
 a173:=Tryz.isAgg320
 z173:=Tryz.sizeOf320
 v173:=Tryz.zeroValue320
 t212:=Tryz.underlying361
 a212:=Tryz.isAgg361
 z212:=Tryz.sizeOf361
 v212:=Tryz.zeroValue361
 t213:=Tryz.underlying362
 a213:=Tryz.isAgg362
 z213:=Tryz.sizeOf362
 t232:=Tryz.underlying376
 a232:=Tryz.isAgg376
 z232:=Tryz.sizeOf376
 v232:=Tryz.zeroValue376
 t233:=Tryz.underlying377
 a233:=Tryz.isAgg377
 z233:=Tryz.sizeOf377
 v233:=Tryz.zeroValue377
 g17:=by kernel_rfl
 g18:=by kernel_rfl
 g19:=by kernel_rfl }
open Go.RowKit Go.Sort Go.Lib in
theorem Tryz.strconv_FormatInt_10_small (i:Nat) (hi:i<100) (w:World) :
  Calls Tryz.prog 245 #[.int .i64 i,.int .i64 10] w fun e w'=>e=.returned (.string ⟨(Lib.decDigits i).toArray⟩)∧w'=w:=Any.strconv_FormatInt_10_small Tryz.lays173 i hi w
def Tryz.lays146_ren:Go.Shelf.Ren:=⟨fun | 146=>46 | 221=>77 | 268=>110 | 138=>111 | 143=>112 | 195=>152 | 197=>153 | 218=>154 | 219=>155 | 260=>203 | 217=>204 | 225=>205 | 224=>206 | 267=>207 | 266=>235 | 314=>236 | n=>n,fun | 9=>9 | 31=>108 | 3=>3 | 4=>4 | 0=>0 | 105=>264 | 21=>21 | 5=>5 | 46=>146 | 119=>330 | 139=>333 | 138=>332 | 146=>335 | 51=>334 | n=>n,fun | 1=>0 | 3=>1 | 4=>2 | n=>n⟩
theorem Tryz.lays146:Go.Proofs.Lays.n146 Tryz.prog Tryz.lays146_ren:={
 mixed:=by kernel_rfl
 f138:=Tryz.func111.trans (congrArg some (by kernel_rfl))
 f143:=Tryz.func112.trans (congrArg some (by kernel_rfl))
 f146:=Tryz.func46.trans (congrArg some (by kernel_rfl))
 f195:=Tryz.func152.trans (congrArg some (by kernel_rfl))
 f197:=Tryz.func153.trans (congrArg some (by kernel_rfl))
 f217:=Tryz.func204.trans (congrArg some (by kernel_rfl))
 f218:=Tryz.func154.trans (congrArg some (by kernel_rfl))
 f219:=Tryz.func155.trans (congrArg some (by kernel_rfl))
 f221:=Tryz.func77.trans (congrArg some (by kernel_rfl))
 f224:=Tryz.func206.trans (congrArg some (by kernel_rfl))
 f225:=Tryz.func205.trans (congrArg some (by kernel_rfl))
 f260:=Tryz.func203.trans (congrArg some (by kernel_rfl))
 f266:=Tryz.func235.trans (congrArg some (by kernel_rfl))
 f267:=Tryz.func207.trans (congrArg some (by kernel_rfl))
 f268:=Tryz.func110.trans (congrArg some (by kernel_rfl))
 f314:=Tryz.func236.trans (congrArg some (by kernel_rfl))
 t0:=Tryz.underlying0
 a0:=Tryz.isAgg0
 z0:=Tryz.sizeOf0
 v0:=Tryz.zeroValue0
 t3:=Tryz.underlying3
 a3:=Tryz.isAgg3
 z3:=Tryz.sizeOf3
 v3:=Tryz.zeroValue3
 t4:=Tryz.underlying4
 a4:=Tryz.isAgg4
 z4:=Tryz.sizeOf4
 v4:=Tryz.zeroValue4
 t5:=Tryz.underlying5
 a5:=Tryz.isAgg5
 z5:=Tryz.sizeOf5
 v5:=Tryz.zeroValue5
 t9:=Tryz.underlying9
 a9:=Tryz.isAgg9
 z9:=Tryz.sizeOf9
 v9:=Tryz.zeroValue9
 t21:=Tryz.underlying21
 a21:=Tryz.isAgg21
 z21:=Tryz.sizeOf21
 v21:=Tryz.zeroValue21
 t31:=Tryz.underlying108
 a31:=Tryz.isAgg108
 z31:=Tryz.sizeOf108
 v31:=Tryz.zeroValue108
 t46:=Tryz.underlying146
 a46:=Tryz.isAgg146
 z46:=Tryz.sizeOf146
 v46:=Tryz.zeroValue146
 t51:=Tryz.underlying334
 a51:=Tryz.isAgg334
 z51:=Tryz.sizeOf334
 v51:=Tryz.zeroValue334
 t105:=Tryz.underlying264
 a105:=Tryz.isAgg264
 z105:=Tryz.sizeOf264
 v105:=Tryz.zeroValue264
 t119:=Tryz.underlying330
 a119:=Tryz.isAgg330
 z119:=Tryz.sizeOf330
 t138:=Tryz.underlying332
 a138:=Tryz.isAgg332
 z138:=Tryz.sizeOf332
 v138:=Tryz.zeroValue332
 t139:=Tryz.underlying333
 a139:=Tryz.isAgg333
 z139:=Tryz.sizeOf333
 v139:=Tryz.zeroValue333
 t146:=Tryz.underlying335
 a146:=Tryz.isAgg335
 z146:=Tryz.sizeOf335
 v146:=Tryz.zeroValue335
 g1:=by kernel_rfl
 g3:=by kernel_rfl
 g4:=by kernel_rfl }
open Go.RowKit Go.Lib in
theorem Tryz.strings_Split (s f:ByteArray) (m:Int) (w:World) (E:s.size<4294967281) (o:w.cell? ⟨0,0,none⟩=some (.int .i64 m)) (h:1≤f.size) :
  Calls Tryz.prog 46 #[.string s,.string f] w fun e w' =>
   e=.returned (.slice (some ⟨w.heap.size,0,none⟩) (Lib.countB s f+1) (Lib.countB s f+1))∧w'=w.alloc (.cells ((Lib.splitB f 0 (Lib.countB s f) s).map Value.string).toArray 9):=Any.strings_Split Tryz.lays146 (by kernel_rfl) s f m w E o h
def Tryz.lays105_ren:Go.Shelf.Ren:=⟨fun | 105=>247 | 212=>268 | 99=>269 | 165=>215 | 166=>48 | 170=>270 | 169=>49 | 263=>281 | 264=>230 | 206=>280 | 240=>81 | 241=>246 | 276=>120 | 277=>267 | n=>n,fun | 9=>9 | 3=>3 | 4=>4 | 20=>20 | 0=>0 | 46=>146 | 109=>367 | 5=>5 | 72=>113 | 76=>118 | 51=>334 | 146=>335 | 53=>98 | 148=>144 | 70=>110 | 37=>111 | 75=>117 | 127=>165 | 164=>232 | 80=>120 | n=>n,fun | n=>n⟩
theorem Tryz.lays105:Go.Proofs.Lays.n105 Tryz.prog Tryz.lays105_ren:={
 mixed:=by kernel_rfl
 f99:=Tryz.func269.trans (congrArg some (by kernel_rfl))
 f105:=Tryz.func247.trans (congrArg some (by kernel_rfl))
 f165:=Tryz.func215.trans (congrArg some (by kernel_rfl))
 f166:=Tryz.func48.trans (congrArg some (by kernel_rfl))
 f169:=Tryz.func49.trans (congrArg some (by kernel_rfl))
 f170:=Tryz.func270.trans (congrArg some (by kernel_rfl))
 f206:=Tryz.func280.trans (congrArg some (by kernel_rfl))
 f212:=Tryz.func268.trans (congrArg some (by kernel_rfl))
 f240:=Tryz.func81.trans (congrArg some (by kernel_rfl))
 f241:=Tryz.func246.trans (congrArg some (by kernel_rfl))
 f263:=Tryz.func281.trans (congrArg some (by kernel_rfl))
 f264:=Tryz.func230.trans (congrArg some (by kernel_rfl))
 f276:=Tryz.func120.trans (congrArg some (by kernel_rfl))
 f277:=Tryz.func267.trans (congrArg some (by kernel_rfl))
 t0:=Tryz.underlying0
 a0:=Tryz.isAgg0
 z0:=Tryz.sizeOf0
 v0:=Tryz.zeroValue0
 t3:=Tryz.underlying3
 a3:=Tryz.isAgg3
 z3:=Tryz.sizeOf3
 v3:=Tryz.zeroValue3
 t4:=Tryz.underlying4
 a4:=Tryz.isAgg4
 z4:=Tryz.sizeOf4
 v4:=Tryz.zeroValue4
 t5:=Tryz.underlying5
 a5:=Tryz.isAgg5
 z5:=Tryz.sizeOf5
 v5:=Tryz.zeroValue5
 t9:=Tryz.underlying9
 a9:=Tryz.isAgg9
 z9:=Tryz.sizeOf9
 v9:=Tryz.zeroValue9
 t20:=Tryz.underlying20
 a20:=Tryz.isAgg20
 z20:=Tryz.sizeOf20
 v20:=Tryz.zeroValue20
 t37:=Tryz.underlying111
 a37:=Tryz.isAgg111
 z37:=Tryz.sizeOf111
 v37:=Tryz.zeroValue111
 t46:=Tryz.underlying146
 a46:=Tryz.isAgg146
 z46:=Tryz.sizeOf146
 v46:=Tryz.zeroValue146
 t51:=Tryz.underlying334
 a51:=Tryz.isAgg334
 z51:=Tryz.sizeOf334
 v51:=Tryz.zeroValue334
 t53:=Tryz.underlying98
 a53:=Tryz.isAgg98
 z53:=Tryz.sizeOf98
 v53:=Tryz.zeroValue98
 t70:=Tryz.underlying110
 a70:=Tryz.isAgg110
 z70:=Tryz.sizeOf110
 v70:=Tryz.zeroValue110
 t72:=Tryz.underlying113
 a72:=Tryz.isAgg113
 z72:=Tryz.sizeOf113
 v72:=Tryz.zeroValue113
 t75:=Tryz.underlying117
 a75:=Tryz.isAgg117
 z75:=Tryz.sizeOf117
 v75:=Tryz.zeroValue117
 t76:=Tryz.underlying118
 a76:=Tryz.isAgg118
 z76:=Tryz.sizeOf118
 v76:=Tryz.zeroValue118
 t109:=Tryz.underlying367
 a109:=Tryz.isAgg367
 z109:=Tryz.sizeOf367
 v109:=Tryz.zeroValue367
 t127:=Tryz.underlying165
 a127:=Tryz.isAgg165
 z127:=Tryz.sizeOf165
 v127:=Tryz.zeroValue165
 t146:=Tryz.underlying335
 a146:=Tryz.isAgg335
 z146:=Tryz.sizeOf335
 v146:=Tryz.zeroValue335
 t148:=Tryz.underlying144
 a148:=Tryz.isAgg144
 z148:=Tryz.sizeOf144
 v148:=Tryz.zeroValue144
 t164:=Tryz.underlying232
 a164:=Tryz.isAgg232
 z164:=Tryz.sizeOf232
 v164:=Tryz.zeroValue232 }
open Go.RowKit Go.Lib in
theorem Tryz.strings_Repeat_zero (s:ByteArray) (w:World) :
  Calls Tryz.prog 247 #[.string s,.int .i64 0] w fun e w'=>e=.returned (.string ⟨#[]⟩)∧w'=w:=Any.strings_Repeat_zero Tryz.lays105 s w
open Go.RowKit Go.Lib in
theorem Tryz.strings_Repeat_one (s:ByteArray) (w:World) :
  Calls Tryz.prog 247 #[.string s,.int .i64 1] w fun e w'=>e=.returned (.string s)∧w'=w:=Any.strings_Repeat_one Tryz.lays105 s w
open Go.Lib in
def Tryz.lays109_ren:Go.Shelf.Ren:=⟨fun | 109=>234 | n=>n,fun | 31=>108 | 9=>9 | 3=>3 | 0=>0 | 4=>4 | n=>n,fun | n=>n⟩
theorem Tryz.lays109:Go.Proofs.Lays.n109 Tryz.prog Tryz.lays109_ren:={
 mixed:=by kernel_rfl
 f109:=Tryz.func234.trans (congrArg some (by kernel_rfl))
 t0:=Tryz.underlying0
 a0:=Tryz.isAgg0
 z0:=Tryz.sizeOf0
 v0:=Tryz.zeroValue0
 t3:=Tryz.underlying3
 a3:=Tryz.isAgg3
 z3:=Tryz.sizeOf3
 v3:=Tryz.zeroValue3
 t4:=Tryz.underlying4
 a4:=Tryz.isAgg4
 z4:=Tryz.sizeOf4
 v4:=Tryz.zeroValue4
 t9:=Tryz.underlying9
 a9:=Tryz.isAgg9
 z9:=Tryz.sizeOf9
 v9:=Tryz.zeroValue9
 t31:=Tryz.underlying108
 a31:=Tryz.isAgg108
 z31:=Tryz.sizeOf108
 v31:=Tryz.zeroValue108 }
open Go.Lib in
theorem Tryz.slices_Index_string (b f n c:Nat) (o:List ByteArray) (x:ByteArray) (w:World) (F:n≤o.length) (h:n≤9223372036854775807) (E:∀ j,j<o.length→w.cell? ⟨b,f+j,none⟩=some (.string (o.getD j ByteArray.empty))) :
  Calls Tryz.prog 234 #[.slice (some ⟨b,f,none⟩) n c,.string x] w fun e w'=>e=.returned (.int .i64 (Lib.idxOfS (o.take n) x))∧w'=w:=Any.slices_Index_string Tryz.lays109 b f n c o x w F h E
end
end Go.Proofs
