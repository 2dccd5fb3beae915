/- No condition. -/
import Derived.Shelf.Strings.Builder1
import Derived.Shelf.Strings.Builder2
import Derived.Shelf.Strings.OnBuilder
import Derived.Shelf.Strconv.Itoa0
import Derived.Shelf.Strconv.Itoa1
import Derived.Shelf.LaysM
import Derived.Shelf.Strconv.Itoa2
import Derived.Shelf.Strconv.Itoa3
import Derived.Shelf.Strings.Search1
import Derived.Shelf.Strings.Search2
import Derived.Shelf.Strings.Search3
import Derived.Shelf.Strings.Cut
import Derived.Shelf.Strings.Count
import Derived.Shelf.Strings.Shaped
import Derived.Shelf.Strings.Split
import Derived.Shelf.Strings.SplitShaped
import Derived.Shelf.Unicode.DecodeSlow
import Derived.Shelf.Slices.Turned
import Derived.Shelf.Slices.Reverse
import Derived.Shelf.Slices.Equal
import Derived.Shelf.Slices.Cells
import Derived.Test.YtfapcfpkbahneaaGreatDoorProg
set_option linter.all false
namespace Go.Proofs
open Go.Shelf
def Tryz.aiU:Go.Shelf.Ren:=⟨fun|156=>347|165=>358|166=>359|169=>360|240=>365|241=>366|276=>368|277=>369|n=>n,fun|31=>148|9=>9|3=>3|4=>4|0=>0|20=>20|72=>295|76=>299|70=>293|37=>22|75=>298|127=>303|164=>306|5=>5|80=>140|n=>n,fun|n=>n⟩
theorem Tryz.aDI:Go.Proofs.Lays.n156 Tryz.prog Tryz.aiU:={
 mixed:=by kernel_rfl
 f156:=Tryz.func347.trans (congrArg some (by kernel_rfl))
 f165:=Tryz.func358.trans (congrArg some (by kernel_rfl))
 f166:=Tryz.func359.trans (congrArg some (by kernel_rfl))
 f169:=Tryz.func360.trans (congrArg some (by kernel_rfl))
 f240:=Tryz.func365.trans (congrArg some (by kernel_rfl))
 f241:=Tryz.func366.trans (congrArg some (by kernel_rfl))
 f276:=Tryz.func368.trans (congrArg some (by kernel_rfl))
 f277:=Tryz.func369.trans (congrArg some (by kernel_rfl))
 t0:=Tryz.underlying0
 a0:=Tryz.isAgg0
 z0:=Tryz.sizeOf0
 v0:=Tryz.zeroValue0
 t3:=Tryz.underlying3
 a3:=Tryz.isAgg3
 z3:=Tryz.sizeOf3
 v3:=Tryz.zeroValue3
 t4:=Tryz.underlying4
 a4:=Tryz.isAgg4
 z4:=Tryz.sizeOf4
 v4:=Tryz.zeroValue4
 t9:=Tryz.underlying9
 a9:=Tryz.isAgg9
 z9:=Tryz.sizeOf9
 v9:=Tryz.zeroValue9
 t20:=Tryz.underlying20
 a20:=Tryz.isAgg20
 z20:=Tryz.sizeOf20
 v20:=Tryz.zeroValue20
 t31:=Tryz.underlying148
 a31:=Tryz.isAgg148
 z31:=Tryz.sizeOf148
 v31:=Tryz.zeroValue148
 t37:=Tryz.underlying22
 a37:=Tryz.isAgg22
 z37:=Tryz.sizeOf22
 v37:=Tryz.zeroValue22
 t70:=Tryz.underlying293
 a70:=Tryz.isAgg293
 z70:=Tryz.sizeOf293
 v70:=Tryz.zeroValue293
 t72:=Tryz.underlying295
 a72:=Tryz.isAgg295
 z72:=Tryz.sizeOf295
 v72:=Tryz.zeroValue295
 t75:=Tryz.underlying298
 a75:=Tryz.isAgg298
 z75:=Tryz.sizeOf298
 v75:=Tryz.zeroValue298
 t76:=Tryz.underlying299
 a76:=Tryz.isAgg299
 z76:=Tryz.sizeOf299
 v76:=Tryz.zeroValue299
 t127:=Tryz.underlying303
 a127:=Tryz.isAgg303
 z127:=Tryz.sizeOf303
 v127:=Tryz.zeroValue303
 t164:=Tryz.underlying306
 a164:=Tryz.isAgg306
 z164:=Tryz.sizeOf306
 v164:=Tryz.zeroValue306}
theorem Tryz.LV:Builder.Extra Tryz.prog Tryz.aiU:={
 sizeBuilder:=by kernel_rfl
 liesBuilder:=by kernel_rfl
 t5:=Tryz.underlying5
 a5:=Tryz.isAgg5
 z5:=Tryz.sizeOf5
 v5:=Tryz.zeroValue5
 infoByte:=by kernel_rfl
 cellsByte:=by kernel_rfl
 sizeByte:=by kernel_rfl
 neB5:=by decide}
open Go.RowKit in
theorem Tryz.strings_Join_none (a:Option Addr)(c:Nat)(sep:ByteArray)(w:World) :
  Calls Tryz.prog 347 #[.slice a 0 c,.string sep] w fun e w'=>e=.returned (.string ⟨#[]⟩)/\w'=w:=Any.strings_Join_none Tryz.aDI Tryz.LV a c sep w
open Go.RowKit in
theorem Tryz.strings_Join (bk o c:Nat)(xs:List ByteArray)(sep:ByteArray)(w:World)(hcells:∀(j:Nat) x,xs[j]?=some x->w.cell? ⟨bk,o+j,none⟩=some (.string x))(hbk:bk<w.heap.size)(hN:xs.length<=140737488355328)(hcap:xs.length<=c)(hlen:(Lib.join (xs.map (·.data.toList)) sep.data.toList).length<=140737488355328) :
  Calls Tryz.prog 347 #[.slice (some ⟨bk,o,none⟩) xs.length c,.string sep] w fun e w'=>e=.returned (.string ⟨(Lib.join (xs.map (·.data.toList)) sep.data.toList).toArray⟩)/\Below w.heap.size w w':=Any.strings_Join Tryz.aDI Tryz.LV bk o c xs sep w hcells hbk hN hcap hlen
def Tryz.aJ6:Go.Shelf.Ren:=⟨fun|246=>315|283=>336|284=>337|285=>338|286=>339|129=>353|317=>352|318=>354|319=>355|320=>356|337=>363|338=>364|n=>n,fun|2=>2|3=>3|9=>9|4=>4|171=>274|0=>0|53=>275|37=>22|5=>5|173=>278|212=>289|51=>268|20=>20|213=>290|46=>164|232=>304|233=>305|n=>n,fun|17=>3|18=>4|19=>5|n=>n⟩
def Tryz.aJ7:Go.Shelf.Ren:=⟨fun|243=>270|246=>315|283=>336|284=>337|285=>338|286=>339|129=>353|317=>352|318=>354|319=>355|320=>356|337=>363|338=>364|n=>n,fun|3=>3|9=>9|2=>2|4=>4|171=>274|0=>0|53=>275|37=>22|5=>5|173=>278|212=>289|51=>268|20=>20|213=>290|46=>164|232=>304|233=>305|n=>n,fun|17=>3|18=>4|19=>5|n=>n⟩
def Tryz.avO:Go.Shelf.Ren:=⟨fun|171=>222|243=>270|246=>315|283=>336|284=>337|285=>338|286=>339|129=>353|317=>352|318=>354|319=>355|320=>356|337=>363|338=>364|n=>n,fun|3=>3|9=>9|2=>2|4=>4|171=>274|0=>0|53=>275|37=>22|5=>5|173=>278|212=>289|51=>268|20=>20|213=>290|46=>164|232=>304|233=>305|n=>n,fun|17=>3|18=>4|19=>5|n=>n⟩
theorem Tryz.aHN:Go.Proofs.LaysM.n171 Tryz.prog Tryz.avO:={
 mixed:=by kernel_rfl
 f129:=Tryz.func353.trans (congrArg some (by kernel_rfl))
 f171:=Tryz.func222.trans (congrArg some (by kernel_rfl))
 f243:=Tryz.func270.trans (congrArg some (by kernel_rfl))
 f246:=Tryz.func315.trans (congrArg some (by kernel_rfl))
 f283:=Tryz.func336.trans (congrArg some (by kernel_rfl))
 f284:=Tryz.func337.trans (congrArg some (by kernel_rfl))
 f285:=Tryz.func338.trans (congrArg some (by kernel_rfl))
 f286:=Tryz.func339.trans (congrArg some (by kernel_rfl))
 f317:=Tryz.func352.trans (congrArg some (by kernel_rfl))
 f318:=Tryz.func354.trans (congrArg some (by kernel_rfl))
 f319:=Tryz.func355.trans (congrArg some (by kernel_rfl))
 f320:=Tryz.func356.trans (congrArg some (by kernel_rfl))
 f337:=Tryz.func363.trans (congrArg some (by kernel_rfl))
 f338:=Tryz.func364.trans (congrArg some (by kernel_rfl))
 t0:=Tryz.underlying0
 a0:=Tryz.isAgg0
 z0:=Tryz.sizeOf0
 v0:=Tryz.zeroValue0
 t2:=Tryz.underlying2
 a2:=Tryz.isAgg2
 z2:=Tryz.sizeOf2
 v2:=Tryz.zeroValue2
 t3:=Tryz.underlying3
 a3:=Tryz.isAgg3
 z3:=Tryz.sizeOf3
 v3:=Tryz.zeroValue3
 t4:=Tryz.underlying4
 a4:=Tryz.isAgg4
 z4:=Tryz.sizeOf4
 v4:=Tryz.zeroValue4
 t5:=Tryz.underlying5
 a5:=Tryz.isAgg5
 z5:=Tryz.sizeOf5
 v5:=Tryz.zeroValue5
 t9:=Tryz.underlying9
 a9:=Tryz.isAgg9
 z9:=Tryz.sizeOf9
 v9:=Tryz.zeroValue9
 t20:=Tryz.underlying20
 a20:=Tryz.isAgg20
 z20:=Tryz.sizeOf20
 v20:=Tryz.zeroValue20
 t37:=Tryz.underlying22
 a37:=Tryz.isAgg22
 z37:=Tryz.sizeOf22
 v37:=Tryz.zeroValue22
 t46:=Tryz.underlying164
 a46:=Tryz.isAgg164
 z46:=Tryz.sizeOf164
 v46:=Tryz.zeroValue164
 t51:=Tryz.underlying268
 a51:=Tryz.isAgg268
 z51:=Tryz.sizeOf268
 v51:=Tryz.zeroValue268
 t53:=Tryz.underlying275
 a53:=Tryz.isAgg275
 z53:=Tryz.sizeOf275
 v53:=Tryz.zeroValue275
 t171:=Tryz.underlying274
 a171:=Tryz.isAgg274
 z171:=Tryz.sizeOf274
 v171:=Tryz.zeroValue274
 t173:=Tryz.underlying278
 a173:=Tryz.isAgg278
 z173:=Tryz.sizeOf278
 v173:=Tryz.zeroValue278
 t212:=Tryz.underlying289
 a212:=Tryz.isAgg289
 z212:=Tryz.sizeOf289
 v212:=Tryz.zeroValue289
 t213:=Tryz.underlying290
 a213:=Tryz.isAgg290
 z213:=Tryz.sizeOf290
 t232:=Tryz.underlying304
 a232:=Tryz.isAgg304
 z232:=Tryz.sizeOf304
 v232:=Tryz.zeroValue304
 t233:=Tryz.underlying305
 a233:=Tryz.isAgg305
 z233:=Tryz.sizeOf305
 v233:=Tryz.zeroValue305
 g17:=by kernel_rfl
 g18:=by kernel_rfl
 g19:=by kernel_rfl
 i0:=by kernel_rfl
 i2:=by kernel_rfl
 i3:=by kernel_rfl
 i4:=by kernel_rfl
 i5:=by kernel_rfl
 i9:=by kernel_rfl
 i20:=by kernel_rfl
 i37:=by kernel_rfl
 i46:=by kernel_rfl
 i51:=by kernel_rfl
 i53:=by kernel_rfl
 i171:=by kernel_rfl
 i173:=by kernel_rfl
 i212:=by kernel_rfl
 i232:=by kernel_rfl
 i233:=by kernel_rfl
 m17:=by kernel_rfl
 m18:=by kernel_rfl
 m19:=by kernel_rfl}
open Go.RowKit Go.Sort Go.Lib in
theorem Tryz.strconv_Itoa (n : Int) (h0 : -9223372036854775808 ≤ n) (h1 : n ≤ 9223372036854775807) (w : World) (htab : Lib.TabIs Tryz.prog w "internal/strconv.uint64pow10" .u64 Lib.pow10Tab) :
  Calls Tryz.prog 222 #[.int .i64 n] w fun e w'=>e=.returned (.string ⟨(Lib.itoa n).toArray⟩)/\∃k os,w'=grow (w.drewN k) os:=Any.strconv_Itoa Tryz.aHN n h0 h1 w htab
def Tryz.aLx:Go.Shelf.Ren:=⟨fun|219=>221|217=>266|225=>267|224=>268|267=>269|266=>313|314=>314|n=>n,fun|9=>9|3=>3|4=>4|5=>5|46=>164|146=>269|51=>268|n=>n,fun|1=>0|n=>n⟩
def Tryz.ayu:Go.Shelf.Ren:=⟨fun|145=>97|220=>161|219=>221|217=>266|225=>267|224=>268|267=>269|266=>313|314=>314|n=>n,fun|9=>9|4=>4|59=>150|3=>3|5=>5|46=>164|146=>269|51=>268|n=>n,fun|1=>0|n=>n⟩
theorem Tryz.aJ8:Go.Proofs.Lays.n145 Tryz.prog Tryz.ayu:={
 mixed:=by kernel_rfl
 f145:=Tryz.func97.trans (congrArg some (by kernel_rfl))
 f217:=Tryz.func266.trans (congrArg some (by kernel_rfl))
 f219:=Tryz.func221.trans (congrArg some (by kernel_rfl))
 f220:=Tryz.func161.trans (congrArg some (by kernel_rfl))
 f224:=Tryz.func268.trans (congrArg some (by kernel_rfl))
 f225:=Tryz.func267.trans (congrArg some (by kernel_rfl))
 f266:=Tryz.func313.trans (congrArg some (by kernel_rfl))
 f267:=Tryz.func269.trans (congrArg some (by kernel_rfl))
 f314:=Tryz.func314.trans (congrArg some (by kernel_rfl))
 t3:=Tryz.underlying3
 a3:=Tryz.isAgg3
 z3:=Tryz.sizeOf3
 v3:=Tryz.zeroValue3
 t4:=Tryz.underlying4
 a4:=Tryz.isAgg4
 z4:=Tryz.sizeOf4
 v4:=Tryz.zeroValue4
 t5:=Tryz.underlying5
 a5:=Tryz.isAgg5
 z5:=Tryz.sizeOf5
 v5:=Tryz.zeroValue5
 t9:=Tryz.underlying9
 a9:=Tryz.isAgg9
 z9:=Tryz.sizeOf9
 v9:=Tryz.zeroValue9
 t46:=Tryz.underlying164
 a46:=Tryz.isAgg164
 z46:=Tryz.sizeOf164
 v46:=Tryz.zeroValue164
 t51:=Tryz.underlying268
 a51:=Tryz.isAgg268
 z51:=Tryz.sizeOf268
 v51:=Tryz.zeroValue268
 t59:=Tryz.underlying150
 a59:=Tryz.isAgg150
 z59:=Tryz.sizeOf150
 v59:=Tryz.zeroValue150
 t146:=Tryz.underlying269
 a146:=Tryz.isAgg269
 z146:=Tryz.sizeOf269
 v146:=Tryz.zeroValue269
 g1:=by kernel_rfl}
open Go.RowKit Go.Lib in
theorem Tryz.strings_Cut (s sep:ByteArray)(m:Int)(w:World)(hs:s.size<4294967281)(hm:w.cell? ⟨0,0,none⟩=some (.int .i64 m)) :
  Calls Tryz.prog 97 #[.string s,.string sep] w fun e w'=>e=.returned (.tuple #[.string ⟨(Lib.cut s.data.toList sep.data.toList).1.toArray⟩,.string ⟨(Lib.cut s.data.toList sep.data.toList).2.1.toArray⟩,.bool (Lib.cut s.data.toList sep.data.toList).2.2])/\∃n,w'=w.drewN n:=Any.strings_Cut Tryz.aJ8 s sep m w hs hm
def Tryz.avP:Go.Shelf.Ren:=⟨fun|145=>97|220=>161|219=>221|217=>266|225=>267|224=>268|267=>269|266=>313|314=>314|n=>n,fun|9=>9|4=>4|59=>150|3=>3|5=>5|46=>164|146=>269|51=>268|n=>n,fun|1=>0|n=>n⟩
theorem Tryz.aHO:Go.Proofs.LaysM.n145 Tryz.prog Tryz.avP:={
 mixed:=by kernel_rfl
 f145:=Tryz.func97.trans (congrArg some (by kernel_rfl))
 f217:=Tryz.func266.trans (congrArg some (by kernel_rfl))
 f219:=Tryz.func221.trans (congrArg some (by kernel_rfl))
 f220:=Tryz.func161.trans (congrArg some (by kernel_rfl))
 f224:=Tryz.func268.trans (congrArg some (by kernel_rfl))
 f225:=Tryz.func267.trans (congrArg some (by kernel_rfl))
 f266:=Tryz.func313.trans (congrArg some (by kernel_rfl))
 f267:=Tryz.func269.trans (congrArg some (by kernel_rfl))
 f314:=Tryz.func314.trans (congrArg some (by kernel_rfl))
 t3:=Tryz.underlying3
 a3:=Tryz.isAgg3
 z3:=Tryz.sizeOf3
 v3:=Tryz.zeroValue3
 t4:=Tryz.underlying4
 a4:=Tryz.isAgg4
 z4:=Tryz.sizeOf4
 v4:=Tryz.zeroValue4
 t5:=Tryz.underlying5
 a5:=Tryz.isAgg5
 z5:=Tryz.sizeOf5
 v5:=Tryz.zeroValue5
 t9:=Tryz.underlying9
 a9:=Tryz.isAgg9
 z9:=Tryz.sizeOf9
 v9:=Tryz.zeroValue9
 t46:=Tryz.underlying164
 a46:=Tryz.isAgg164
 z46:=Tryz.sizeOf164
 v46:=Tryz.zeroValue164
 t51:=Tryz.underlying268
 a51:=Tryz.isAgg268
 z51:=Tryz.sizeOf268
 v51:=Tryz.zeroValue268
 t59:=Tryz.underlying150
 a59:=Tryz.isAgg150
 z59:=Tryz.sizeOf150
 v59:=Tryz.zeroValue150
 t146:=Tryz.underlying269
 a146:=Tryz.isAgg269
 z146:=Tryz.sizeOf269
 v146:=Tryz.zeroValue269
 g1:=by kernel_rfl
 i3:=by kernel_rfl
 i4:=by kernel_rfl
 i5:=by kernel_rfl
 i9:=by kernel_rfl
 i46:=by kernel_rfl
 i51:=by kernel_rfl
 i59:=by kernel_rfl
 i146:=by kernel_rfl
 m1:=by kernel_rfl
 s1_3:=fun w h=>Go.Proofs.cell_of_shapedOpen_int (zero:=#[.int .i64 0]) (t:=3) h (of_decide_eq_true (by kernel_rfl)) (by kernel_rfl) rfl (by kernel_rfl) (by kernel_rfl) Tryz.underlying3}
def Tryz.aLy:Go.Shelf.Ren:=⟨fun|221=>220|268=>263|138=>264|143=>265|195=>310|197=>311|218=>312|219=>221|260=>335|217=>266|225=>267|224=>268|267=>269|266=>313|314=>314|n=>n,fun|9=>9|3=>3|31=>148|4=>4|0=>0|105=>266|21=>21|5=>5|46=>164|119=>285|139=>288|138=>287|146=>269|51=>268|n=>n,fun|1=>0|3=>1|4=>2|n=>n⟩
def Tryz.ayv:Go.Shelf.Ren:=⟨fun|146=>160|221=>220|268=>263|138=>264|143=>265|195=>310|197=>311|218=>312|219=>221|260=>335|217=>266|225=>267|224=>268|267=>269|266=>313|314=>314|n=>n,fun|9=>9|31=>148|3=>3|4=>4|0=>0|105=>266|21=>21|5=>5|46=>164|119=>285|139=>288|138=>287|146=>269|51=>268|n=>n,fun|1=>0|3=>1|4=>2|n=>n⟩
theorem Tryz.aJ9:Go.Proofs.Lays.n146 Tryz.prog Tryz.ayv:={
 mixed:=by kernel_rfl
 f138:=Tryz.func264.trans (congrArg some (by kernel_rfl))
 f143:=Tryz.func265.trans (congrArg some (by kernel_rfl))
 f146:=Tryz.func160.trans (congrArg some (by kernel_rfl))
 f195:=Tryz.func310.trans (congrArg some (by kernel_rfl))
 f197:=Tryz.func311.trans (congrArg some (by kernel_rfl))
 f217:=Tryz.func266.trans (congrArg some (by kernel_rfl))
 f218:=Tryz.func312.trans (congrArg some (by kernel_rfl))
 f219:=Tryz.func221.trans (congrArg some (by kernel_rfl))
 f221:=Tryz.func220.trans (congrArg some (by kernel_rfl))
 f224:=Tryz.func268.trans (congrArg some (by kernel_rfl))
 f225:=Tryz.func267.trans (congrArg some (by kernel_rfl))
 f260:=Tryz.func335.trans (congrArg some (by kernel_rfl))
 f266:=Tryz.func313.trans (congrArg some (by kernel_rfl))
 f267:=Tryz.func269.trans (congrArg some (by kernel_rfl))
 f268:=Tryz.func263.trans (congrArg some (by kernel_rfl))
 f314:=Tryz.func314.trans (congrArg some (by kernel_rfl))
 t0:=Tryz.underlying0
 a0:=Tryz.isAgg0
 z0:=Tryz.sizeOf0
 v0:=Tryz.zeroValue0
 t3:=Tryz.underlying3
 a3:=Tryz.isAgg3
 z3:=Tryz.sizeOf3
 v3:=Tryz.zeroValue3
 t4:=Tryz.underlying4
 a4:=Tryz.isAgg4
 z4:=Tryz.sizeOf4
 v4:=Tryz.zeroValue4
 t5:=Tryz.underlying5
 a5:=Tryz.isAgg5
 z5:=Tryz.sizeOf5
 v5:=Tryz.zeroValue5
 t9:=Tryz.underlying9
 a9:=Tryz.isAgg9
 z9:=Tryz.sizeOf9
 v9:=Tryz.zeroValue9
 t21:=Tryz.underlying21
 a21:=Tryz.isAgg21
 z21:=Tryz.sizeOf21
 v21:=Tryz.zeroValue21
 t31:=Tryz.underlying148
 a31:=Tryz.isAgg148
 z31:=Tryz.sizeOf148
 v31:=Tryz.zeroValue148
 t46:=Tryz.underlying164
 a46:=Tryz.isAgg164
 z46:=Tryz.sizeOf164
 v46:=Tryz.zeroValue164
 t51:=Tryz.underlying268
 a51:=Tryz.isAgg268
 z51:=Tryz.sizeOf268
 v51:=Tryz.zeroValue268
 t105:=Tryz.underlying266
 a105:=Tryz.isAgg266
 z105:=Tryz.sizeOf266
 v105:=Tryz.zeroValue266
 t119:=Tryz.underlying285
 a119:=Tryz.isAgg285
 z119:=Tryz.sizeOf285
 t138:=Tryz.underlying287
 a138:=Tryz.isAgg287
 z138:=Tryz.sizeOf287
 v138:=Tryz.zeroValue287
 t139:=Tryz.underlying288
 a139:=Tryz.isAgg288
 z139:=Tryz.sizeOf288
 v139:=Tryz.zeroValue288
 t146:=Tryz.underlying269
 a146:=Tryz.isAgg269
 z146:=Tryz.sizeOf269
 v146:=Tryz.zeroValue269
 g1:=by kernel_rfl
 g3:=by kernel_rfl
 g4:=by kernel_rfl}
open Go.RowKit Go.Lib in
theorem Tryz.strings_Split (s sep:ByteArray)(m:Int)(w:World)(hs:s.size<4294967281)(hm:w.cell? ⟨0,0,none⟩=some (.int .i64 m))(h1:1<=sep.size) :
  Calls Tryz.prog 160 #[.string s,.string sep] w fun e w' =>
   e=.returned (.slice (some ⟨w.heap.size,0,none⟩) (Lib.countB s sep+1) (Lib.countB s sep+1))/\w'=w.alloc (.cells ((Lib.splitB sep 0 (Lib.countB s sep) s).map Value.string).toArray 9):=Any.strings_Split Tryz.aJ9 (by kernel_rfl) s sep m w hs hm h1
end Go.Proofs
