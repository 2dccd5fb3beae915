/- No condition. -/
import Derived.Test.YtpkabclplaibaaaGreatDoorQjYJL6
set_option linter.all false
namespace Go.Am.Tryz
open Go.Am
def azQ {code:List Int}(h:code.length<=1048576):Gd (oC F0 code) fun z=>Uj z.1:=by rw[S3];exact Gd.bind (aCo h) fun c a=>Dr.bind (azP a) fun w b d=>Gd.ret b.1
def aDw {w:aj}(h:aa3 w=true):di w=true:=by unfold aa3 at h;rw[aD]at h;exact h.1
def alZ (code:List Int):CX F0 code=some (true,()):=by
 rw[acT,aqq,ao];by_cases h:(code.length:Int)>1048576
 .rw[aS h,ae]
 .rw[aT h,aa];obtain⟨⟨w,u⟩,e,b⟩:=azQ (code:=code) (by omega);have b:Uj w:=b;have a:=b.wl;have c:=b.wb;have d:=aDw (w:=w);rw[e,ao];dsimp only;rw[W8 a,ao,QU a,ao,QV a,ao,T3 a,ao,T1 a c,ao,apg a,ao,C3,aZ,aa,ajP a,ao,C3,aZ,aa,
   ajT a,ao,C3,aZ,aa,alK a,ao,C3,aZ,aa,alJ a c,ao,C3,aZ,aa,alL a c,ao,aq9 a,ao,atA a,ao,mK a,ao,C3]
  unfold ayY
  revert d
  cases aa3 w<;>cases O6 w<;>cases O8 w<;>cases YD w<;>cases adg w<;>intro d<;>first|rfl|(rw[d rfl];rfl)
end Go.Am.Tryz
