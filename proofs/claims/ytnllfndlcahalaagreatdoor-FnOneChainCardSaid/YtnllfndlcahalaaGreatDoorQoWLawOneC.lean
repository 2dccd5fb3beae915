/- No condition. -/
import Derived.Test.YtnllfndlcahalaaGreatDoorQoWJL6
set_option linter.all false
namespace Go.Am.Tryz
open Go.Am
def amB (code:List Int):vS F0 code=some (true,()):=by
 rw[acK,ayv,ai];by_cases h:(code.length:Int)>1048576
 .rw[aL h,ae]
 .rw[aQ h,aa];obtain⟨⟨w,list,u⟩,e,f,g,d⟩:=aFA (code:=code) (by omega);obtain⟨c,liars,rfl,b⟩:=f;dsimp only at g d;obtain⟨o,i,j⟩:=aFz b (list:=list) (by omega) d;have a:=az5 (list:=list) b;obtain⟨p,k⟩:=auK list b (aJt c liars);have l:=aAg list (aKu c liars);rw[e,ai];have m:tO F0 (SW c liars).1 (SW c liars).2.1=some (SW c liars,true,()):=ata b;have n:lv F0 (SW c liars).1 (SW c liars).2.1=some (SW c liars,true,()):=SX b;rw[m,ai,n,ai];dsimp only;rw[Vk,aN,aa,aa,j,ai];dsimp only;rw[i,Vk,ae,eP a.w.l,ai,a.ok,ae,asT a.w.l a.w.b,ai,aKz a k l,ae,aze a.w.l,ai,aJy a]
end Go.Am.Tryz
