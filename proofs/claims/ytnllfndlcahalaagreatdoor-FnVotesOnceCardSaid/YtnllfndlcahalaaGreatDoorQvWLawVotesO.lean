/- No condition. -/
import Derived.Test.YtnllfndlcahalaaGreatDoorQvWJL6
set_option linter.all false
namespace Go.Am.Tryz
open Go.Am
def ajS (code:List Int)(t:∀x∈code,0<=x/\x<=255):na F0 code=some (true,()):=by
 rw[aag,aze,ai];by_cases h:(code.length:Int)>1048576
 .rw[aL h,ae]
 .rw[aQ h,aa];obtain⟨⟨w,list,u⟩,y,z,A,p⟩:=aGp (code:=code) (by omega);obtain⟨c,liars,rfl,b⟩:=z;dsimp only at A p;obtain⟨H,B⟩:=aGo b (list:=list) (by omega) p;have a:=aAO (list:=list) b;obtain⟨I,d⟩:=avv list b (aKi c liars);have q:=aA0 list (aLk c liars);rw[y,ai];have C:fo F0 (R8 c liars).1 (R8 c liars).2.1=some (R8 c liars,true,()):=atW b;have D:dZ F0 (R8 c liars).1 (R8 c liars).2.1=some (R8 c liars,true,()):=Tp b;rw[C,ai,D,ai];dsimp only;rw[aao,aN,aa,aa,B,ai];dsimp only;generalize YW (R8 c liars) list=g at a d q;by_cases r:(g.2.2.2.2.length:Int)=0
  .rw[bd.2 r,ae,atF a.w.l a.w.b,ai,aLp a d q]
  .obtain⟨v,E,F,K⟩:=aKn t (by omega) (i:=1) (by omega) (by omega);obtain⟨t0,t1⟩:=agH F (n:=(g.2.2.2.2.length:Int)) (by omega);obtain⟨e,G,j⟩:∃e:Nat,Int.tmod v (g.2.2.2.2.length:Int)=(e:Int)/\e<g.2.2.2.2.length:=⟨(Int.tmod v (g.2.2.2.2.length:Int)).toNat,by omega,by omega⟩;rw[bU.2 r,aa,E,ai];dsimp only;rw[ed,ab,G,an j,ab,aV j];have l:=bJ j;generalize g.2.2.2.2[e]=x at l;obtain⟨k,f,m,_⟩:=d.s x l;have L:=a.liars;rw[aBb (by omega),ai];dsimp only;by_cases o:x.2.2∈g.2.1
   .rw[aL o,ae]
   .have s:(k:Int)∈aD g:=asr _ (by rw[<-m];exact o) _ f;rw[aQ o,aa,m,show vZ F0 g (8,(k:Int),0,0,0,(ak,0,ak,[]),(0,ak,[]),(0,ak,[]),0,0,0,0,0)=_ from aKp a s f 0,ai];dsimp only;rw[show((0:Int) != 0)=false from rfl,aa,kf (Int.natCast_nonneg k) (by rw[aIN];omega),ab,aKo f];exact aKq a d l f m s
end Go.Am.Tryz
