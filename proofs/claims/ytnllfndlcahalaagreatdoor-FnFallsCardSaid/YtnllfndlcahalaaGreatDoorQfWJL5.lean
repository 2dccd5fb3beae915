/- No condition. -/
import Derived.Test.YtnllfndlcahalaaGreatDoorQfWJL4
set_option linter.all false
namespace Go.Am.Tryz
open Go.Am
def aKq (r:aw)(p:bZ):Bool:= !dj p.2.1&& !decide (p.1<r.2.1)
def iL (c:Int×Int)(r:aw)(p:bZ):aw×Bool :=
 if aKq r p=true/\(bs c r.2.2.2.2.2.1 p).2=true then ((fI c (fJ r (bs c r.2.2.2.2.2.1 p).1) p.1 p.2.1 false).1,true) else (r,false)
def aY.aFD {c:Int×Int}{r:aw}(h:aY c r)(p:bZ):aY c (iL c r p).1:=by
 unfold iL;split
 .exact(h.fJ (o8 h.f.t _)).axe _ _ _
 .exact h
def aHu {c:Int×Int}{p:bZ}(h:iy c p=true):um p:=⟨(F4 h).1,by have:=(F4 h).2;omega⟩
def axi {c:Int×Int}{r:aw}(h:aY c r){p:bZ}(a:iy c p=true):D0 F0 c r p=some ((iL c r p).1,(iL c r p).2,()):=by
 have e:=Jy (wa h.f.t) (F4 a) c;have b:=h.fJ (o8 h.f.t p);have f:ba F0 (r.1,r.2.1,r.2.2.1,r.2.2.2.1,r.2.2.2.2.1,(bs c r.2.2.2.2.2.1 p).1,r.2.2.2.2.2.2)=some (fJ r (bs c r.2.2.2.2.2.1 p).1,()):=dV b.bt;obtain⟨x,g,i⟩:=SV b p.1 (F4 a).1 false;rw[ahf,dV h.bt,ai,hY h.l,ai,h.ok,aN,aa,SC (aHu a),ai,a,aN,aa];simp only[ai,e,f,g];unfold iL aKq dj;cases (p.2.1.toList==ak.toList)<;>cases decide (p.1<r.2.1)
 .cases j:(bs c r.2.2.2.2.2.1 p).2 with
  |false=>rfl
  |true =>
   rw[ag ⟨rfl,rfl⟩];cases d:(fI c (fJ r (bs c r.2.2.2.2.2.1 p).1) p.1 p.2.1 false).2 with
   |true=>rw[i d];rfl|false=>rw[azG d];rfl
 .rfl
 .rfl
 .rfl
def as0 {c:Int×Int}{r:aw}(h:aY c r){p:bZ}(a:iy c p=true):EI F0 c r p=some ((iL c r p).1,(iL c r p).2,()):=by
 have b:=EX (wa h.f.t) (F4 a) c;have d:=h.fJ (o8 h.f.t p);have e:n0 F0 c (r.1,r.2.1,r.2.2.1,r.2.2.2.1,r.2.2.2.2.1,(bs c r.2.2.2.2.2.1 p).1,r.2.2.2.2.2.2) p.1 p.2.1 false=some ((fI c (fJ r (bs c r.2.2.2.2.2.1 p).1) p.1 p.2.1 false).1,(fI c (fJ r (bs c r.2.2.2.2.2.1 p).1) p.1 p.2.1 false).2,()):=ac9 d p.1 (F4 a).1 false;rw[ahU,dS h.l,ai,h.ok,aN,aa,Ot (aHu a),ai,a,aN,aa,dW h.bt];simp only[ai,b,e];unfold iL aKq dj;cases (p.2.1.toList==ak.toList)<;>cases decide (p.1<r.2.1)
 .cases f:(bs c r.2.2.2.2.2.1 p).2<;>rfl
 .rfl
 .rfl
 .rfl
def axj (q:bZ):Int:=GS 60 (aj (q.1+1))
def tJ (c:Int×Int)(r:aw)(view:Int):Bool:=decide (b4 c view=r.1)&&decide (view>=r.2.1)
def Me (l:Bool)(o:aw)(view:Int)(q:bZ):aw:=if l=true then tp (tp o (axj q)) view else tp o (axj q)
def rG (imp:Bool)(c:Int×Int)(r:aw)(view:Int)(q:bZ)(cw:Int)(o:aw):aw×Bool :=
 if tJ c r view=true then
  if (bs c o.2.2.2.2.2.1 (one view ak cw)).2=true then
   (Me (OJ c (bs c o.2.2.2.2.2.1 (one view ak cw)).1 view) (fJ o (bs c o.2.2.2.2.2.1 (one view ak cw)).1) view q,true)
  else (r,false)
 else (Me (imp&&OJ c o.2.2.2.2.2.1 view) o view q,true)
def iM (imp:Bool)(c:Int×Int)(r:aw)(view:Int)(q:bZ)(cw:Int):aw×Bool:=if (written c r q).2=true then rG imp c r view q cw (written c r q).1 else (r,false)
def Y5 {imp:Bool}{c:Int×Int}{r:aw}{view:Int}{q:bZ}{cw:Int}{o:aw}(h:tJ c r view=false):rG imp c r view q cw o=(Me (imp&&OJ c o.2.2.2.2.2.1 view) o view q,true):=af (by rw[h];decide)
def aqV {imp:Bool}{c:Int×Int}{r:aw}{view:Int}{q:bZ}{cw:Int}{o:aw}(h:tJ c r view=true)(a:(bs c o.2.2.2.2.2.1 (one view ak cw)).2=false):rG imp c r view q cw o=(r,false):=by unfold rG;rw[ag h,af (by rw[a];decide)]
def aqW {imp:Bool}{c:Int×Int}{r:aw}{view:Int}{q:bZ}{cw:Int}{o:aw}(h:tJ c r view=true)(a:(bs c o.2.2.2.2.2.1 (one view ak cw)).2=true) :
  rG imp c r view q cw o=(Me (OJ c (bs c o.2.2.2.2.2.1 (one view ak cw)).1 view) (fJ o (bs c o.2.2.2.2.2.1 (one view ak cw)).1) view q,true):=by
 unfold rG;rw[ag h,ag a]
def amQ (x:Int):GS 60 x<=60:=by unfold GS;split<;>omega
def Y6 (x:Int):GS x 60=GS 60 x:=by unfold GS;split<;>split<;>omega
def aFE (a b c:Int):tc (tc a b) c=tc (tc a c) b:=by
 unfold tc
 repeat' split
 all_goals omega
def aY.Me {c:Int×Int}{o:aw}(h:aY c o)(l:Bool){view:Int}(a:view<=60)(q:bZ):aY c (Me l o view q):=by
 unfold Tryz.Me;split
 .exact(h.raised (amQ _)).raised a
 .exact h.raised (amQ _)
def aY.rG {c:Int×Int}{r o:aw}(h:aY c r)(a:aY c o)(imp:Bool){view:Int}(b:view<=60)(q:bZ)(cw:Int):aY c (rG imp c r view q cw o).1:=by
 unfold Tryz.rG;split
 .split
  .exact(a.fJ (o8 a.f.t _)).Me _ b q
  .exact h
 .exact a.Me _ b q
def aY.aFF {c:Int×Int}{r:aw}(h:aY c r)(imp:Bool){view:Int}(a:view<=60)(q:bZ)(cw:Int):aY c (iM imp c r view q cw).1:=by
 unfold iM;split
 .exact h.rG (h.w q) imp a q cw
 .exact h
def axk {c:Int×Int}{r:aw}(h:aY c r){view:Int}(m:gp 1 60 view=true){q:bZ}(e:eV c q=true){cw:Int}(n:gp 0 (aj (c.1-1)) cw=true) :
  D7 F0 c r view q cw=some ((iM false c r view q cw).1,(iM false c r view q cw).2,()):=by
 have i:=Pn e;have d:aY c (written c r q).1:=h.w q;rw[ahh,dV h.bt,ai,hY h.l,ai,h.ok,aN,aa,cQ,ai,m,aN,aa,SB i,ai,e,aN,aa,cQ,ai,n,aN,aa,aw3 h.l.s i];simp only[ai];rw[SU h (aqN h q),ai];unfold iM;unfold written at d ⊢;generalize h8 c r (SP c r.2.2.2.1 q)=W at d ⊢;obtain⟨a,o⟩:=W;dsimp only at d ⊢;cases o with
 |false=>rfl
 |true =>
  have p:fk F0 c a.2.2.2.2.2.1 (view,ak,[cw])=some ((bs c a.2.2.2.2.2.1 (one view ak cw)).1,(bs c a.2.2.2.2.2.1 (one view ak cw)).2,()):=Jy (wa d.f.t) ⟨aR _,by show 1<=1000;omega⟩ c;have j:=o8 d.f.t (one view ak cw);have s:=SQ (l:=(bs c a.2.2.2.2.2.1 (one view ak cw)).1) (bX (wa j).1 (by omega)) (fun q e=>(wa j).l e) view ak;show _=some ((rG false c r view q cw a).1,(rG false c r view q cw a).2,());rw[ag rfl];simp only[ai,L0,p,s,acP,De,Y2,ae];by_cases f:b4 c view=r.1
  .rw[bf.2 f,ae];by_cases g:view>=r.2.1
   .have b:tJ c r view=true:=by unfold tJ;rw[aL f,aL g];rfl
    rw[aL g,ae];cases k:(bs c a.2.2.2.2.2.1 (one view ak cw)).2 with
    |false=>rw[aqV b k];rfl
    |true =>
     rw[aqW b k,aN,aa];unfold OJ;cases t:decide (((dk (bs c a.2.2.2.2.2.1 (one view ak cw)).1 view ak).2.2.length:Int)>=tH c) with
     |false=>rw[aa,Y6];rfl|true=>rw[ae,Y6,aFE];rfl
   .have b:tJ c r view=false:=by unfold tJ;rw[aQ g,adt]
    rw[Y5 b,aQ g,aa,Y6];rfl
  .have b:tJ c r view=false:=by unfold tJ;rw[aQ f,ZP]
   rw[Y5 b,bT.2 f,aa,Y6];rfl
def as1 {c:Int×Int}{r:aw}(h:aY c r){view:Int}(l:gp 1 60 view=true){q:bZ}(g:eV c q=true){cw:Int}(m:gp 0 (aj (c.1-1)) cw=true) :
  EJ F0 c r view q cw=some ((iM true c r view q cw).1,(iM true c r view q cw).2,()):=by
 have i:=Pn g;have b:aY c (written c r q).1:=h.w q;rw[ahW,dS h.l,ai,h.ok,aN,aa,bR,ai,l,aN,aa,Rq i,ai,g,aN,aa,bR,ai,m,aN,aa,aqD h.l.s i,dW h.bt];simp only[ai];rw[ac7 h (aqN h q),ai];unfold iM;unfold written at b ⊢;generalize h8 c r (SP c r.2.2.2.1 q)=W at b ⊢;obtain⟨a,n⟩:=W;dsimp only at b ⊢;cases n with
 |false=>rfl
 |true =>
  have o:eK F0 c a.2.2.2.2.2.1 (view,ak,[cw])=some ((bs c a.2.2.2.2.2.1 (one view ak cw)).1,(bs c a.2.2.2.2.2.1 (one view ak cw)).2,()):=EX (wa b.f.t) ⟨aR _,by show 1<=1000;omega⟩ c;have p:=o8 b.f.t (one view ak cw);have s:(if 60<aj (q.1+1) then 60 else aj (q.1+1))=axj q:=rfl;have t:sS F0 c (a.1,(if axj q>a.2.1 then axj q else a.2.1,(a.2.2.1,a.2.2.2.1,a.2.2.2.2.1,(bs c a.2.2.2.2.2.1 (one view ak cw)).1,a.2.2.2.2.2.2))) view=some (OJ c (bs c a.2.2.2.2.2.1 (one view ak cw)).1 view,()) :=
   aqQ (r:=tp (fJ a (bs c a.2.2.2.2.2.1 (one view ak cw)).1) (axj q)) ((b.fJ p).raised (amQ _)).l view
  have u:sS F0 c (a.1,(if axj q>a.2.1 then axj q else a.2.1,a.2.2)) view=some (OJ c a.2.2.2.2.2.1 view,()):=aqQ (r:=tp a (axj q)) (b.raised (amQ _)).l view;show _=some ((rG true c r view q cw a).1,(rG true c r view q cw a).2,());rw[aN,aa,s];simp only[ai,JN,o,t,u];by_cases e:b4 c view=r.1
  .rw[bf.2 e,ae];by_cases f:view>=r.2.1
   .have d:tJ c r view=true:=by unfold tJ;rw[aL e,aL f];rfl
    rw[aL f,ae];cases j:(bs c a.2.2.2.2.2.1 (one view ak cw)).2 with
    |false=>rw[aqV d j];rfl
    |true =>
     rw[aqW d j,aN,aa];cases k:OJ c (bs c a.2.2.2.2.2.1 (one view ak cw)).1 view<;>rfl
   .have d:tJ c r view=false:=by unfold tJ;rw[aQ f,adt]
    rw[Y5 d,aQ f,aa,eD];cases k:OJ c a.2.2.2.2.2.1 view<;>rfl
  .have d:tJ c r view=false:=by unfold tJ;rw[aQ e,ZP]
   rw[Y5 d,bT.2 e,aa,eD];cases k:OJ c a.2.2.2.2.2.1 view<;>rfl
def OK (r:aw)(p:List dH):aw:=(r.1,r.2.1,r.2.2.1,r.2.2.2.1,p,r.2.2.2.2.2)
def Yk (r:aw)(x:dH):aw×Bool:=(OK r (lW r.2.2.2.2.1 x).1,(lW r.2.2.2.2.1 x).2)
def aY.OK {c:Int×Int}{r:aw}(h:aY c r){p:List dH}(a:ff p=true):aY c (OK r p) :=
 ⟨⟨h.f.cf,h.f.i,h.f.v,h.f.a,h.f.s,a,h.f.t,h.f.d,h.f.n,h.f.h⟩,h.b⟩
def aY.aJe {c:Int×Int}{r:aw}(h:aY c r)(x:dH):aY c (Yk r x).1:=h.OK (aB8 h.f.p x)
def aCc {l:List dH}{x:dH}(h:(lW l x).2=false):(lW l x).1=l:=by
 unfold lW at h ⊢;cases a:ff (EY x l) with
 |true=>rw[a,ag rfl]at h;cases h|false=>rfl
def aCd {c:Int×Int}{r:aw}(h:aY c r)(x:dH):M7 F0 c r x=some ((Yk r x).1,(Yk r x).2,()):=by
 have b:=(ac6 h.f.p).1;rw[aoD,dV h.bt,ai,hY h.l,ai,h.ok,aN,aa,azw (by omega),ai];unfold Yk;cases a:(lW r.2.2.2.2.1 x).2 with
 |true=>rfl|false=>rw[aCc a];rfl
def azJ {c:Int×Int}{r:aw}(h:aY c r)(x:dH):N5 F0 c r x=some ((Yk r x).1,(Yk r x).2,()):=by have a:=(ac6 h.f.p).1;rw[apy,dW h.bt,ai,dS h.l,ai,h.ok,aN,aa,aw8 (by omega),ai];rfl
def uo (imp:Bool)(c:Int×Int)(r:aw)(m:b0):aw×Bool :=
 if m.1=1 then e9 c r m.2.2.1 else if m.1=2 then iL c r m.2.2.2.1 else if m.1=3 then iM imp c r m.2.1 m.2.2.2.2.1 m.2.2.2.2.2.1 else Yk r m.2.2.2.2.2.2
def Rz (r:aw):aw:=fJ r (af2 r.2.2.2.2.2.1 (aj (r.2.1-1)))
def finish (c:Int×Int)(r:aw):aw:=OK (Rz r) (aqI r.2.2.2.2.1 (iX c (Rz r)))
def GU (imp:Bool)(c:Int×Int)(r:aw)(m:b0):aw×Bool:=if c9 c m=true/\(uo imp c r m).2=true then (finish c (uo imp c r m).1,true) else (r,false)
def aY.Rz {c:Int×Int}{r:aw}(h:aY c r):aY c (Rz r):=h.fJ (aqT h.f.t _)
def aY.finish {c:Int×Int}{r:aw}(h:aY c r):aY c (finish c r):=h.Rz.OK (asZ h.f.p _)
def agb (c:Int×Int)(r:aw):(iX c r).1.length<=4/\(iX c r).2.length<=4:=by
 unfold iX;split
 .have:=Jp Ma (xs:=Ve r.2.2.2.1.2.2.2);exact⟨Nat.le_of_eq this.1,Nat.le_of_eq this.2⟩
 .exact⟨aR _,aR _⟩
structure aLX (c:Int×Int) (m:b0):Prop where
 k:m.1=1\/m.1=2\/m.1=3\/m.1=4
 b:m.1=1->fF c m.2.2.1=true
 p:m.1=2->iy c m.2.2.2.1=true/\dj m.2.2.2.1.2.1=false
 v:m.1=3->gp 1 60 m.2.1=true/\eV c m.2.2.2.2.1=true/\gp 0 (aj (c.1-1)) m.2.2.2.2.2.1=true
 t:m.1=4->gn m.2.2.2.2.2.2=true
 s:named m=m
def agc {c:Int×Int}{m:b0}(h:c9 c m=true):aLX c m:=by
 unfold c9 at h;simp only[aG]at h;obtain⟨i,g,a⟩:=h;have d:=ac0 g;by_cases b:m.1=1
 .rw[ag (by simpa using b)]at a;exact⟨.inl b,fun _=>a,fun h=>by omega,fun h=>by omega,fun h=>by omega,d⟩
 .by_cases e:m.1=2
  .rw[af (by simpa using b),ag (by simpa using e)]at a;simp only[aG,ai6]at a;exact⟨.inr (.inl e),fun h=>by omega,fun _=>a,fun h=>by omega,fun h=>by omega,d⟩
  .by_cases f:m.1=3
   .rw[af (by simpa using b),af (by simpa using e),ag (by simpa using f)]at a;simp only[aG]at a;exact⟨.inr (.inr (.inl f)),fun h=>by omega,fun h=>by omega,fun _=>a,fun h=>by omega,d⟩
   .rw[af (by simpa using b),af (by simpa using e),af (by simpa using f)]at a;simp only[aG,bf]at a;exact⟨.inr (.inr (.inr a.1)),fun h=>by omega,fun h=>by omega,fun h=>by omega,fun _=>a.2,d⟩
def aY.aCe {c:Int×Int}{r:aw}(h:aY c r)(imp:Bool){m:b0}(a:c9 c m=true):aY c (uo imp c r m).1:=by
 have b:=agc a;unfold uo;split
 .exact h.aqU _
 .split
  .exact h.aFD _
  .split
   .rename_i d;have:=(b.v d).1;simp only[gp,aG,bV]at this;exact h.aFF imp this.2 _ _
   .exact h.aJe _
def aY.heard {c:Int×Int}{r:aw}(h:aY c r)(imp:Bool)(m:b0):aY c (GU imp c r m).1:=by
 unfold GU;split
 .rename_i a;exact(h.aCe imp a.1).finish
 .exact h
def azK {c:Int×Int}{r:aw}(h:aY c r){m:b0}(b:c9 c m=true):IH F0 c r m=some ((uo false c r m).1,(uo false c r m).2,()):=by
 have a:=agc b;rw[alr];unfold uo;rcases a.k with k|k|k|k
 .rw[bf.2 k,ae,ag k,abB h (a.b k),ai]
 .rw[bT.2 (show m.1≠1 by omega),aa,bf.2 k,ae,af (by omega),ag k,axi h (a.p k).1,ai]
 .rw[bT.2 (show m.1≠1 by omega),aa,bT.2 (show m.1≠2 by omega),aa,bf.2 k,ae,af (by omega),af (by omega),ag k,axk h (a.v k).1 (a.v k).2.1 (a.v k).2.2,ai]
 .rw[bT.2 (show m.1≠1 by omega),aa,bT.2 (show m.1≠2 by omega),aa,bT.2 (show m.1≠3 by omega),aa,af (by omega),af (by omega),af (by omega),aCd h,ai]
def azL {c:Int×Int}{r:aw}(h:aY c r){m:b0}(e:fU m):Qm F0 c r m=some ((GU false c r m).1,(GU false c r m).2,()):=by
 rw[avX,hY h.l,ai,h.ok,aN,aa,JQ e,ai,dV h.bt,ai];unfold GU;cases d:c9 c m with
 |false=>rfl
 |true =>
  rw[azK h d,ai];have b:=h.aCe false d;generalize uo false c r m=X at b ⊢;obtain⟨a,ok⟩:=X;dsimp only at b ⊢;cases ok with
  |false=>rfl
  |true =>
   have f:KS F0 c (a.1,a.2.1,a.2.2.1,a.2.2.2.1,a.2.2.2.2.1,af2 a.2.2.2.2.2.1 (aj (a.2.1-1)),a.2.2.2.2.2.2)=some (iX c (Rz a),()):=aFj b.Rz.l c;have i:=agb c (Rz a);have g:=axa (p:=a.2.2.2.2.1) b.l.p (l:=iX c (Rz a)) (by omega) (by omega);rw[asT b.l.t b.l.tq,ai,f,ai,g,ai];rfl
def aui {c:Int×Int}{r:aw}(h:aY c r){m:b0}(i:fU m):JK F0 c r m=some ((GU true c r m).1,(GU true c r m).2,()):=by
 rw[awn,L5 i,ai,dW h.bt,ai];unfold GU;cases f:c9 c m with
 |false=>rfl
 |true =>
  have d:=agc f;have tail:∀a:aw,aY c a->∀ok:Bool,br (!ok) (some (r,false,())) ((hf F0 a.2.2.2.2.2.1 (aj (a.2.1-1))).bind fun g=>(lH F0 c (a.1,a.2.1,a.2.2.1,a.2.2.2.1,a.2.2.2.2.1,g.1,a.2.2.2.2.2.2)).bind fun j=>(jA F0 a.2.2.2.2.1 j.1).bind fun n=>some ((a.1,a.2.1,a.2.2.1,a.2.2.2.1,n.1,g.1,a.2.2.2.2.2.2),true,())) =
    some ((if true=true/\ok=true then (finish c a,true) else (r,false)).1,(if true=true/\ok=true then (finish c a,true) else (r,false)).2,()):=fun a b ok=>by
   cases ok with
   |false=>rfl
   |true =>
    have o:lH F0 c (a.1,a.2.1,a.2.2.1,a.2.2.2.1,a.2.2.2.2.1,af2 a.2.2.2.2.2.1 (aj (a.2.1-1)),a.2.2.2.2.2.2)=some (iX c (Rz a),()):=aqn b.Rz.l c;have s:=agb c (Rz a);have q:=asV (p:=a.2.2.2.2.1) b.l.p (l:=iX c (Rz a)) (by omega) (by omega);rw[aqG b.l.t b.l.tq,ai,o,ai,q,ai];rfl
  have b:=h.aCe true f;rw[aN,aa];rcases d.k with k|k|k|k
  .have e:uo true c r m=e9 c r m.2.2.1:=ag k;rw[e]at b ⊢;rw[bf.2 k,ae,Yj h (d.b k),ai];exact tail _ b _
  .have e:uo true c r m=iL c r m.2.2.2.1:=by unfold uo;rw[af (by omega),ag k]
   rw[e]at b ⊢;rw[bT.2 (show m.1≠1 by omega),aa,bf.2 k,ae,as0 h (d.p k).1,ai];exact tail _ b _
  .have e:uo true c r m=iM true c r m.2.1 m.2.2.2.2.1 m.2.2.2.2.2.1:=by unfold uo;rw[af (by omega),af (by omega),ag k]
   rw[e]at b ⊢;rw[bT.2 (show m.1≠1 by omega),aa,bT.2 (show m.1≠2 by omega),aa,bf.2 k,ae,as1 h (d.v k).1 (d.v k).2.1 (d.v k).2.2,ai];exact tail _ b _
  .have e:uo true c r m=Yk r m.2.2.2.2.2.2:=by unfold uo;rw[af (by omega),af (by omega),af (by omega)]
   rw[e]at b ⊢;rw[bT.2 (show m.1≠1 by omega),aa,bT.2 (show m.1≠2 by omega),aa,bT.2 (show m.1≠3 by omega),aa,azJ h,ai];exact tail _ b _
def x2 (w:ah):(av w).length<=w.2.2.1.length:=j8 _ _
def Y7 {U ζ γ:Type}(X:Nat->Int->ζ->Option γ)(a:List U)(f:ζ->U->ζ)(I:ζ->Prop)(R:Option γ)(b:ζ)(d:I b)(e:∀z x,x∈a->I z->I (f z x))
  (g:∀n k z (h:k<a.length),I z->X (n+1) (k:Int) z=X n ((k+1:Nat):Int) (f z a[k])) (i:∀n,X (n+1) (a.length:Int) (a.foldl f b)=R) (n:Nat) (j:a.length<n):X n 0 b=R:=by
 refine cu X a.length (fun k z=>z=(a.take k).foldl f b/\I z) R (fun n k z c h=>.inr ⟨_,g n k z c h.2,?_,e _ _ (bH c) h.2⟩) (fun n z h=>?_) n 0 b (aR _) ⟨rfl,d⟩ (by omega)
 .rw[ef c,List.foldl_append,h.1];rfl
 .rw[h.1,ki];exact i n
def isSaid (view:Int)(name:ByteArray)(cw:Int)(y:cJ):Bool:=(y.1==view)&&((y.2.1.toList==name.toList)&&(y.2.2==cw))
def kh (l:List cJ)(view:Int)(name:ByteArray)(cw:Int):Bool:=l.any (isSaid view name cw)
def azM {U:Type}{p:U->Bool}{l:List U}{k:Nat}(a:k<l.length):(l.drop k).any p=(p l[k] || (l.drop (k+1)).any p):=by rw[Vh a,List.any_cons]
def aqX {l:List cJ}(h:l.length<=1048576)(view:Int)(name:ByteArray)(cw:Int):Fs F0 l view name cw=some (kh l view name cw,()):=by
 rw[aoH];refine cu (fun n k (z:Unit)=>oW F0 (vj F0) n (kx l view name cw k)) l.length (fun k _=>kh l view name cw=(l.drop k).any (isSaid view name cw)) _ (fun n k z b a=>?_) (fun n z a=>?_) F0.n 0 () (aR _) rfl (by rw[bB];omega)
 .rw[azM b]at a;rw[KU,aM b,ae,an b,ab,ab,ab,aT b,ahl,al (by omega),a];unfold isSaid;cases c:(l[k].1==view) with
  |false=>exact .inr ⟨(),aa _ _,rfl⟩
  |true =>
   cases d:(l[k].2.1.toList==name.toList) with
   |false=>exact .inr ⟨(),by rw[ae,aa],rfl⟩
   |true =>
    cases e:(l[k].2.2==cw) with
    |false=>exact .inr ⟨(),by rw[ae,ae,aa],rfl⟩
    |true=>exact .inl rfl
 .rw[Vk]at a;rw[KU,aE,aa,aex,a];rfl
def aJf {l:List cJ}(h:l.length<=1048576)(x:cJ):∃r,YK F0 l x=some (r,())/\decide (r>=0)=kh l x.1 x.2.1 x.2.2:=by
 rw[awb];have key:∀(a k n:Nat),k+a=l.length->a<n->∃r,NM F0 (EC F0) n (EB l (l.length:Int) (k:Int) x.1 x.2.1 x.2.2)=some (r,())/\decide (r>=0)=(l.drop k).any (isSaid x.1 x.2.1 x.2.2):=by
  intro a
  induction a with
  |zero =>
   intro k n c d;obtain⟨n,rfl⟩:∃m,n=m+1:=⟨n-1,by omega⟩;obtain rfl:k=l.length:=by omega
   rw[QP,aE,aa,al0,Vk];exact⟨-1,rfl,rfl⟩
  |succ a f =>
   intro k n c d;obtain⟨n,rfl⟩:∃m,n=m+1:=⟨n-1,by omega⟩;have b:k<l.length:=by omega
   have e:((x.1==l[k].1)&&((x.2.1.toList==l[k].2.1.toList)&&((x.2.2==l[k].2.2)&&true)))=isSaid x.1 x.2.1 x.2.2 l[k]:=by unfold isSaid;rw[Bool.and_true,show(x.1==l[k].1)=(l[k].1==x.1) from tr,show(x.2.1.toList==l[k].2.1.toList)=(l[k].2.1.toList==x.2.1.toList) from tr,show(x.2.2==l[k].2.2)=(l[k].2.2==x.2.2) from tr]
   rw[QP,aM b,ae,an b,ab,aT b,e,apl,al (by omega),azM b];cases g:isSaid x.1 x.2.1 x.2.2 l[k]with
   |true=>exact⟨(k:Int),ae _ _,by rw[aL (show(k:Int)>=0 by omega)];rfl⟩
   |false =>
    rw[aa,JY];exact f (k+1) n (by omega) (by omega)
 exact key l.length 0 F0.n (by omega) (by rw[bB];omega)
def Dg {l:List cJ}(h:l.length<=1048576)(x:cJ):db F0 l x=some (kh l x.1 x.2.1 x.2.2,()):=by obtain⟨r,a,b⟩:=aJf h x;rw[GM,a,ai,b]
def RA (liars:List Int)(l:List cJ)(view:Int)(name:ByteArray)(i:Int):Bool:=decide (i∈liars) || kh l view name i
def signed (liars:List Int)(l:List cJ)(view:Int)(name:ByteArray)(cw:List Int):Bool:=cw.all (RA liars l view name)
def adb {liars:List Int}(c:liars.length<=1048576){l:List cJ}(b:l.length<=1048576)(view:Int)(name:ByteArray){cw:List Int}(d:cw.length<=1048576):w7 F0 liars l view name cw=some (signed liars l view name cw,()):=by
 rw[aoI,eM (fun m k=>tU F0 (vk F0) m (oA liars l view name cw k)) cw.length (fun k=>RA liars l view name (cw.getD k 0)) (some (true,())) (some (false,())) (fun m k a=>?_) (fun m=>?_) _ (by rw[bB];omega),LY,rC]
 .rfl
 .rw[KV,aM a,ae,an a,ab,ab,aT a,fC (by omega),ai,aqX b,ai,ahm,al (by omega),aJ a];unfold RA;cases decide (cw[k]∈liars)<;>cases kh l view name cw[k]<;>rfl
 .rw[KV,aE,aa,aey]
def Yl {liars:List Int}(c:liars.length<=1048576){l:List cJ}(b:l.length<=1048576)(view:Int)(name:ByteArray){cw:List Int}(d:cw.length<=1048576):xU F0 liars l view name cw=some (signed liars l view name cw,()):=by
 rw[apC,eM (fun m k=>ui F0 (vP F0) m (oJ liars l view name cw (cw.length:Int) k)) cw.length (fun k=>RA liars l view name (cw.getD k 0)) (some (true,())) (some (false,())) (fun m k a=>?_) (fun m=>?_) _ (by rw[bB];omega),LY,rC]
 .rfl
 .rw[LI,aM a,ae,an a,ab,aT a,eA (by omega),ai,Dg b,ai,ah3,al (by omega),aJ a];unfold RA;cases decide (cw[k]∈liars)<;>cases kh l view name cw[k]<;>rfl
 .rw[LI,aE,aa,afi]
def Jz (liars:List Int)(l:List cJ)(q:bZ):Bool:=signed liars l q.1 q.2.1 q.2.2
def GV (c:Int×Int)(liars:List Int)(l:List cJ)(m:b0):Bool :=
 c9 c m&&(if m.1=1 then decide (b4 c (aD m.2.2.1.1.data.toList)∈liars)&&Jz liars l m.2.2.1.2 else if m.1=2 then Jz liars l m.2.2.2.1 else if m.1=3 then decide (m.2.2.2.2.2.1∈liars)&&Jz liars l m.2.2.2.2.1 else true)
def aCf {c:Int×Int}{liars:List Int}(f:liars.length<=1048576){l:List cJ}(g:l.length<=1048576){m:b0}(a:fU m):M9 F0 c liars l m=some (GV c liars l m,()):=by
 rw[aoK,JQ a,ai,o5 a.1,ai,L0,ai,fC (by omega),ai,adb f g _ _ a.2.1.2,ai,adb f g _ _ a.2.2.1.2,ai,fC (by omega),ai,adb f g _ _ a.2.2.2.2,ai];unfold GV;cases c9 c m with
 |false=>rfl
 |true =>
  rw[aN,aa,eD];by_cases b:m.1=1
  .rw[bf.2 b,ae,ag b];dsimp only;cases decide (b4 c (aD m.2.2.1.1.data.toList)∈liars)<;>rfl
  .rw[bT.2 b,aa,af b];by_cases d:m.1=2
   .rw[bf.2 d,ae,ag d];rfl
   .rw[bT.2 d,aa,af d];by_cases e:m.1=3
    .rw[bf.2 e,ae,ag e];dsimp only;cases decide (m.2.2.2.2.2.1∈liars)<;>rfl
    .rw[bT.2 e,aa,af e]
def axl:so F0=some (cc,()):=by rw[T5];rfl
def agd {liars:List Int}{l:List cJ}{q:bZ}{U:Type}(f:Bool->U):br (gq q cc) (some (f true)) (some (f (Jz liars l q)))=some (f (Jz liars l q)):=by
 cases h:gq q cc with
 |false=>rfl
 |true =>
  have:=Ru h;subst this;rfl
def azN {c:Int×Int}{liars:List Int}(d:liars.length<=1048576){l:List cJ}(e:l.length<=1048576){m:b0}(a:fU m):Oa F0 c liars l m=some (GV c liars l m,()):=by
 rw[apE,L5 a,ai,rB a.1,ai,JN,ai,eA (by omega),ai,axl,ai,L4 a.2.1,ai,Yl d e _ _ a.2.1.2,ai,Yl d e _ _ a.2.2.1.2,ai,eA (by omega),ai,ai,L4 a.2.2.2,ai,Yl d e _ _ a.2.2.2.2,ai];dsimp only;have f1:=agd (liars:=liars) (l:=l) (q:=m.2.2.1.2) (fun b=>(b,()));have f2:=agd (liars:=liars) (l:=l) (q:=m.2.2.2.2.1) (fun b=>(b,()));unfold Jz at f1 f2;rw[f1,f2];unfold GV;cases df:c9 c m with
 |false=>rfl
 |true =>
  rw[aN,aa,eD];rcases(agc df).k with k|k|k|k
  .rw[bT.2 (show m.1≠4 by omega),aa,bT.2 (show m.1≠2 by omega),aa,bf.2 k,ae,ag k];unfold Jz;cases decide (b4 c (aD m.2.2.1.1.data.toList)∈liars)<;>rfl
  .rw[bT.2 (show m.1≠4 by omega),aa,bf.2 k,ae,af (by omega),ag k];rfl
  .rw[bT.2 (show m.1≠4 by omega),aa,bT.2 (show m.1≠2 by omega),aa,bT.2 (show m.1≠1 by omega),aa,af (by omega),af (by omega),ag k];unfold Jz;cases decide (m.2.2.2.2.2.1∈liars)<;>rfl
  .rw[bf.2 k,ae,af (by omega),af (by omega),af (by omega)]
def UR (id:Int)(q:bZ):List cJ:=if dj q.2.1=true then [] else if id∈q.2.2 then [(q.1,q.2.1,id)] else []
def cH (id:Int)(m:b0):List cJ:=if m.1=4 then [] else if m.1=2 then UR id m.2.2.2.1 else if m.1=1 then UR id m.2.2.1.2 else UR id m.2.2.2.2.1
def RB (id:Int)(q:bZ):br (q.2.1.toList==ak.toList) (some (([]:List cJ),())) (br (!decide (id∈q.2.2)) (some ([],())) (some ([(q.1,q.2.1,id)],())))=some (UR id q,()):=by
 unfold UR dj;cases (q.2.1.toList==ak.toList) with
 |true=>rfl
 |false =>
  by_cases h:id∈q.2.2
  .rw[aL h,af (by decide),ag h];rfl
  .rw[aQ h,af (by decide),af h];rfl
def aCg {m:b0}(d:fU m)(id:Int):Nh F0 id m=some (cH id m,()):=by
 rw[aoR,fC (bX d.2.2.1.2 (by omega)),ai,fC (bX d.2.1.2 (by omega)),ai,fC (bX d.2.2.2.2 (by omega)),ai];dsimp only;rw[RB id m.2.2.2.1,RB id m.2.2.1.2,RB id m.2.2.2.2.1];unfold cH;by_cases a:m.1=4
 .rw[ag a,bT.2 (show m.1≠2 by omega),aa,bT.2 (show m.1≠1 by omega),aa,bf.2 a,ae]
 .rw[af a,bT.2 a,aa,aa,aa];by_cases b:m.1=2
  .rw[ag b,bf.2 b,ae]
  .rw[af b,bT.2 b,aa];by_cases c:m.1=1
   .rw[ag c,bf.2 c,ae]
   .rw[af c,bT.2 c,aa]
def ako {m:b0}(d:fU m)(id:Int):FE F0 id m=some (cH id m,()):=by
 rw[apk,eA (bX d.2.2.1.2 (by omega)),ai,eA (bX d.2.1.2 (by omega)),ai,eA (bX d.2.2.2.2 (by omega)),ai];dsimp only;rw[RB id m.2.2.2.1,RB id m.2.2.1.2,RB id m.2.2.2.2.1];unfold cH;by_cases a:m.1=4
 .rw[ag a,bf.2 a,ae]
 .rw[af a,bT.2 a,aa];by_cases b:m.1=2
  .rw[ag b,bf.2 b,ae]
  .rw[af b,bT.2 b,aa];by_cases c:m.1=1
   .rw[ag c,bf.2 c,ae]
   .rw[af c,bT.2 c,aa]
def ade (id:Int)(m:b0):(cH id m).length<=1:=by
 have a:∀q:bZ,(UR id q).length<=1:=fun q=>by
  unfold UR;split
  .exact aR _
  .split
   .exact bG _
   .exact aR _
 unfold cH;split
 .exact aR _
 .split
  .exact a _
  .split
   .exact a _
   .exact a _
def Dh (l:List cJ)(x:cJ):List cJ:=if l.length<300/\kh l x.1 x.2.1 x.2.2=false then l++[x] else l
def aCh (id:Int)(l:List cJ)(p:jB):List cJ:=(cH id p.2).foldl Dh l
def Y8 (id:Int)(list:List jB)(l:List cJ):List cJ:=list.foldl (aCh id) l
def lN (w:ah)(id:Int)(list:List jB):ah:=if id∈av w then (w.1,w.2.1,w.2.2.1,w.2.2.2.1,Y8 id list w.2.2.2.2) else w
def adf {l:List cJ}(h:l.length<=300)(x:cJ):(Dh l x).length<=300:=by
 unfold Dh;split
 .rename_i a;rw[aK,cS];omega
 .exact h
def age:∀{xs:List cJ} {l:List cJ},l.length<=300->(xs.foldl Dh l).length<=300
 |[],_,h=>h|x::xs,l,h=>age (xs:=xs) (adf h x)
def akp (id:Int):∀{list:List jB} {l:List cJ},l.length<=300->(Y8 id list l).length<=300
 |[],_,h=>h|p::list,l,h=>akp id (list:=list) (age h)
def aFG {w:ah}(h:Pm w)(j:w.2.2.2.2.length<=300)(id:Int){list:List jB}(o:list.length<=1048576)(l:∀p∈list,fU p.2):KY F0 w id list=some (lN w id list,()):=by
 rw[asf,akj h,ai,aqh h.l,ai,fC (by have:=x2 w;have:=h.l.r;dsimp only;omega),ai];unfold lN;by_cases b:id∈av w
 .rw[aL b,ag b,aN,aa];refine Y7 (fun n k z=>IJ F0 (Ai F0) n (Ah id list k 0 0 w.1.1 w.1.2 [] [] [] [] w.2.1 w.2.2.1 w.2.2.2.1 z)) list (aCh id) (fun z=>z.length<=300) _ w.2.2.2.2 j (fun z p q d=>age d) (fun n k z c d=>?_) (fun n=>?_) _ (by rw[bB];omega)
  .rw[Nj,aM c,ae,an c,ab,aT c,aCg (l _ (bH c)),ai];have r:=ade id list[k].2;refine Y7 (fun m a (y:List cJ)=>sj F0 (KX F0 (Ai F0) n) m (mx id list (k:Int) a 0 0 w.1.1 w.1.2 (cH id list[k].2) [] [] [] [] w.2.1 w.2.2.1 w.2.2.2.1 y)) (cH id list[k].2) Dh (fun y=>y.length<=300) _ z d (fun y x s g=>adf g x) (fun m a y e g=>?_) (fun m=>?_) _ (by rw[bB];omega)
   .rw[Ni,aM e,ae,an e,ab,aT e,aqX (by omega),ai,ar (by omega) (by omega) (by first|omega|(simp only[aK,aW,bj];omega)|(rw[bc,bz];omega)),ab,al (by omega)];unfold Dh;by_cases i:y.length<300
    .rw[aL (show(y.length:Int)<300 by omega),ae];cases kh y (cH id list[k].2)[a].1 (cH id list[k].2)[a].2.1 (cH id list[k].2)[a].2.2 with
     |true=>rw[af (fun f=>by cases f.2)];rfl
     |false=>rw[ag ⟨i,rfl⟩];rfl
    .rw[aQ (show ¬(y.length:Int)<300 by omega),aa,af (fun f=>i f.1)]
   .rw[Ni,aE,aa,ahp,al (by omega)];rfl
  .rw[Nj,aE,aa,ahq];rfl
 .rw[aQ b,af b];rfl
def aCi {w:ah}(h:Pm w)(j:w.2.2.2.2.length<=300)(id:Int){list:List jB}(o:list.length<=1048576)(l:∀p∈list,fU p.2):Sh F0 w id list=some (lN w id list,()):=by
 rw[asu,lI h,ai,lr h.l,ai,eA (by have:=x2 w;have:=h.l.r;dsimp only;omega),ai];unfold lN;by_cases b:id∈av w
 .rw[aL b,ag b,aN,aa];refine Y7 (fun n k z=>I2 F0 (AR F0) n (AQ id list (list.length:Int) k 0 0 w.1.1 w.1.2 [] [] [] [] w.2.1 w.2.2.1 w.2.2.2.1 z)) list (aCh id) (fun z=>z.length<=300) _ w.2.2.2.2 j (fun z p q d=>age d) (fun n k z c d=>?_) (fun n=>?_) _ (by rw[bB];omega)
  .rw[NO,aM c,ae,an c,ab,aT c,ako (l _ (bH c)),ai];have r:=ade id list[k].2;refine Y7 (fun m a (y:List cJ)=>sH F0 (Lo F0 (AR F0) n) m (mO id list (list.length:Int) (k:Int) ((cH id list[k].2).length:Int) a 0 0 w.1.1 w.1.2 (cH id list[k].2) [] [] [] [] w.2.1 w.2.2.1 w.2.2.2.1 y)) (cH id list[k].2) Dh (fun y=>y.length<=300) _ z d (fun y x s g=>adf g x) (fun m a y e g=>?_) (fun m=>?_) _ (by rw[bB];omega)
   .rw[NN,aM e,ae,an e,ab,aT e,Dg (by omega),ai,ar (by omega) (by omega) (by first|omega|(simp only[aK,aW,bj];omega)|(rw[bc,bz];omega)),ab,al (by omega)];unfold Dh;by_cases i:y.length<300
    .rw[aL (show(y.length:Int)<300 by omega),ae];cases kh y (cH id list[k].2)[a].1 (cH id list[k].2)[a].2.1 (cH id list[k].2)[a].2.2 with
     |true=>rw[af (fun f=>by cases f.2)];rfl
     |false=>rw[ag ⟨i,rfl⟩];rfl
    .rw[aQ (show ¬(y.length:Int)<300 by omega),aa,af (fun f=>i f.1)];cases kh y (cH id list[k].2)[a].1 (cH id list[k].2)[a].2.1 (cH id list[k].2)[a].2.2<;>rfl
   .rw[NN,aE,aa,ahK,al (by omega)];rfl
  .rw[NO,aE,aa,ahL];rfl
 .rw[aQ b,af b];rfl
def abC (c:Int×Int)(a:List gw)(p:jB):List gw:=if a.length<60/\c9 c p.2=true/\gp 0 (aj (c.1-1)) p.1=true then a++[(p.1,Dd p.2)] else a
def aqY (c:Int×Int)(list:List jB)(a:List gw):List gw:=list.foldl (abC c) a
def uq (w:ah)(list:List jB):ah:=(w.1,w.2.1,w.2.2.1,aqY w.1 list w.2.2.2.1,w.2.2.2.2)
def aiQ {c:Int×Int}{a:List gw}(h:a.length<=60)(p:jB):(abC c a p).length<=60:=by
 unfold abC;split
 .rename_i b;rw[aK,cS];omega
 .exact h
def auj (c:Int×Int)(m:b0):decide (((afZ c m).length:Int)>0)=c9 c m:=by
 unfold afZ;cases h:c9 c m with
 |false=>rfl
 |true =>
  have:=(aqA h).2.2;rw[ag rfl];exact aL (by omega)
def akq {w:ah}(e:w.2.2.2.1.length<=60){list:List jB}(h:list.length<=1048576)(f:∀p∈list,fU p.2):Ad F0 w list=some ((uq w list,()),()):=by
 rw[alw];refine Y7 (fun n k z=>jX F0 (CE F0) n (gb list k w.1.1 w.1.2 0 0 w.2.1 w.2.2.1 z w.2.2.2.2 [] [] [] [])) list (abC w.1) (fun z=>z.length<=60) _ w.2.2.2.1 e (fun z p i c=>aiQ c p) (fun n k z b c=>?_) (fun n=>?_) _ (by rw[bB];omega)
 .rw[Ho,aM b,ae,an b,ab,aT b,show((w.1.1,w.1.2):Int×Int)=w.1 from rfl,aw0 (f _ (bH b)),ai,ab,cQ,ai,ab,ar (by omega) (by omega) (by first|omega|(simp only[aK,aW,bj];omega)|(rw[bc,bz];omega)),ab,al (by omega)];dsimp only;rw[auj];unfold abC;by_cases d:z.length<60
  .rw[aL (show(z.length:Int)<60 by omega),ae];cases g:c9 w.1 list[k].2 with
   |false=>rw[af (fun a=>by cases a.2.1)];rfl
   |true =>
    cases j:gp 0 (aj (w.1.1-1)) list[k].1 with
    |false=>rw[af (fun a=>by cases a.2.2)];rfl
    |true=>rw[ag ⟨d,rfl,rfl⟩,ae,ae,show afZ w.1 list[k].2=Dd list[k].2 from ag g]
  .rw[aQ (show ¬(z.length:Int)<60 by omega),aa,af (fun a=>d a.1)]
 .rw[Ho,aE,aa,aci];rfl
def aFH {w:ah}(h:Pm w)(e:w.2.2.2.1.length<=60){list:List jB}(i:list.length<=1048576)(f:∀p∈list,fU p.2):QS F0 w list=some (if fa w=true then uq w list else w,()):=by
 rw[awd,lI h,ai,gJ h.l,ai];cases df:fa w with
 |false=>rfl
 |true =>
  rw[aN,aa,ag rfl];refine Y7 (fun n k z=>rk F0 (O7 F0) n (lF list (list.length:Int) k w.1.1 w.1.2 w.2.1 w.2.2.1 w.2.2.2.1 w.2.2.2.2 0 0 w.1.1 w.1.2 [] [] [] [] w.2.1 w.2.2.1 z w.2.2.2.2)) list (abC w.1) (fun z=>z.length<=60) _ w.2.2.2.1 e (fun z p j c=>aiQ c p) (fun n k z b c=>?_) (fun n=>?_) _ (by rw[bB];omega)
  .rw[QR,aM b,ae,an b,ab,aT b,show((w.1.1,w.1.2):Int×Int)=w.1 from rfl,abx (f _ (bH b)),ai,bR,ai,ar (by omega) (by omega) (by first|omega|(simp only[aK,aW,bj];omega)|(rw[bc,bz];omega)),ab,al (by omega)];dsimp only;rw[auj];unfold abC;cases g:c9 w.1 list[k].2 with
   |false=>rw[af (fun a=>by cases a.2.1)];rfl
   |true =>
    cases l:gp 0 (aj (w.1.1-1)) list[k].1 with
    |false=>rw[af (fun a=>by cases a.2.2)];rfl
    |true =>
     by_cases d:z.length<60
     .rw[aL (show(z.length:Int)<60 by omega),ag ⟨d,rfl,rfl⟩,show afZ w.1 list[k].2=Dd list[k].2 from ag g];rfl
     .rw[aQ (show ¬(z.length:Int)<60 by omega),af (fun a=>d a.1)];rfl
  .rw[QR,aE,aa,al4];rfl
def amR {c:Int×Int}{r:aw}{a:Int}{m:b0}:(lQ c r a m).1.1=r.1:=by unfold lQ;split<;>rfl
def aHv {c:Int×Int}{r:aw}{q:bZ}:(pX c r q).1.1=r.1:=by
 have h:(written c r q).1.1=r.1:=af5;unfold pX;split
 .split
  .exact h
  .split
   .exact h
   .rw[amR];exact h
 .rfl
def aqZ {c:Int×Int}{r:aw}{view:Int}{name:ByteArray}{a:Bool}:(fI c r view name a).1.1=r.1:=by
 unfold fI;split
 .rfl
 .split
  .split
   .exact aHv
   .rfl
  .split
   .rfl
   .exact amR
def aKr {c:Int×Int}{r:aw}{name:ByteArray}:(own c r name).1.1=r.1:=by
 unfold own;split
 .rw[aqZ];rfl
 .rfl
def aHw {r:aw}{b:cq}:(jD r b).1=r.1:=by unfold jD;split<;>rfl
def agf {c:Int×Int}{r:aw}{b:cq}:(e9 c r b).1.1=r.1:=by
 have h:(h8 c (jD r b) (tI c r b)).1.1=r.1:=by rw[af5,aHw]
 unfold e9 B8;split
 .split
  .split
   .rw[aKr];exact h
   .rfl
  .exact h
 .rfl
def azO {c:Int×Int}{r:aw}{p:bZ}:(iL c r p).1.1=r.1:=by
 unfold iL;split
 .rw[aqZ];rfl
 .rfl
def azP {imp:Bool}{c:Int×Int}{r:aw}{view:Int}{q:bZ}{cw:Int}:(iM imp c r view q cw).1.1=r.1:=by
 have h:(written c r q).1.1=r.1:=af5;have b:∀(l:Bool) (a:aw),(Me l a view q).1=a.1:=fun l a=>by unfold Me;split<;>rfl
 unfold iM rG;split
 .split
  .split
   .rw[b];exact h
   .rfl
  .rw[b];exact h
 .rfl
def aHx {imp:Bool}{c:Int×Int}{r:aw}{m:b0}:(uo imp c r m).1.1=r.1:=by
 unfold uo;split
 .exact agf
 .split
  .exact azO
  .split
   .exact azP
   .rfl
def axm {imp:Bool}{c:Int×Int}{r:aw}{m:b0}:(GU imp c r m).1.1=r.1:=by
 unfold GU;split
 .exact aHx (imp:=imp)
 .rfl
def aHy {c:Int×Int}{r:aw}:(B7 c r).1.1=r.1:=by
 unfold B7;split
 .rfl
 .split
  .split
   .rfl
   .rfl
  .split
   .rw[amR];rfl
   .rfl
def aiR {c:Int×Int}{r:aw}{m:b0}:∀(j k:Nat) (o:aw),o.1=r.1->(rF c r m j k o).1.1=r.1
 |0,_,_,h=>h|j+1,k,o,h=>by
  unfold rF;split
  .exact aiR j (k+1) o h
  .split
   .exact aiR j (k+1) _ (by rw[amR];exact h)
   .rfl
def F5 (r:aw):aw:=(r.1,r.2.1,r.2.1,r.2.2.2)
def aY.F5 {c:Int×Int}{r:aw}(h:aY c r):aY c (F5 r):=by have a:=h.view;exact⟨⟨h.f.cf,h.f.i,h.f.v,by show gp 0 60 r.2.1=true;simp only[gp,aG,bV];omega,h.f.s,h.f.p,h.f.t,h.f.d,h.f.n,h.f.h⟩,h.b⟩
def aiS (c:Int×Int)(r:aw):aw×Bool:=SW c (F5 r) (aqM (ask c r).1)
def Ym (c:Int×Int)(r:aw):aw×Int :=
 if (ask c r).2=true then (if (aiS c r).2=true/\(e9 c (aiS c r).1 (ask c r).1).2=true then ((e9 c (aiS c r).1 (ask c r).1).1,0) else (r,4)) else (r,3)
def aCj {c:Int×Int}{r:aw}(h:aY c r):aY c (aiS c r).1:=h.F5.aJb _
def aY.Ym {c:Int×Int}{r:aw}(h:aY c r):aY c (Ym c r).1:=by
 unfold Tryz.Ym;split
 .split
  .exact(aCj h).aqU _
  .exact h
 .exact h
def aJg {c:Int×Int}{r:aw}:(Ym c r).1.1=r.1:=by
 unfold Ym;split
 .split
  .rw[agf];exact aiR _ _ _ rfl
  .rfl
 .rfl
def azQ {c:Int×Int}{r:aw}(h:aY c r):Ji F0 c r=some ((Ym c r).1,(Ym c r).2,()):=by
 rw[amm,aHq h,ai,dW h.bt,ai];unfold Ym;cases d:(ask c r).2 with
 |false=>rfl
 |true =>
  obtain⟨_,b,_,_⟩:=aHr d;obtain⟨e,f⟩:=JS b;have g:Bi F0 c (r.1,r.2.1,r.2.1,r.2.2.2) (1,0,(ask c r).1,(0,ak,[]),(0,ak,[]),0,0,0,0,0)=some ((aiS c r).1,(aiS c r).2,()):=axh h.F5 (ac8 e f);dsimp only;rw[g,ai,Yj (aCj h) b,ai,aN,aa,ag rfl];cases (aiS c r).2 with
  |false=>rw[af (fun a=>by cases a.1)];rfl
  |true =>
   cases (e9 c (aiS c r).1 (ask c r).1).2 with
   |false=>rw[af (fun a=>by cases a.2)];rfl
   |true=>rw[ag ⟨rfl,rfl⟩];rfl
def tK (c:Int×Int)(r:aw):Nat->aw×Int
 |0=>(r,3)|k+1=>if dj (r.2.2.2.2.2.1.getD k cc).2.1=true then tK c r k
  else if (fI c r (r.2.2.2.2.2.1.getD k cc).1 (r.2.2.2.2.2.1.getD k cc).2.1 true).2=true then ((fI c r (r.2.2.2.2.2.1.getD k cc).1 (r.2.2.2.2.2.1.getD k cc).2.1 true).1,0) else (r,3)
def auk (c:Int×Int)(r:aw):aw×Int:=tK c r r.2.2.2.2.2.1.length
def azR {c:Int×Int}{r:aw}(h:aY c r):∀k,aY c (tK c r k).1
 |0=>h|k+1=>by
  unfold tK;split
  .exact azR h k
  .split
   .exact h.axe _ _ _
   .exact h
def aul {c:Int×Int}{r:aw}:∀k,(tK c r k).1.1=r.1
 |0=>rfl|k+1=>by
  unfold tK;split
  .exact aul k
  .split
   .exact aqZ
   .rfl
def aum {c:Int×Int}{r:aw}(h:aY c r):∀(k n:Nat),k<=r.2.2.2.2.2.1.length->k<n ->
  vW F0 (pT F0) n (pS ((k:Int)-1) c.1 c.2 r.1 r.2.1 r.2.2.1 r.2.2.2.1.1 r.2.2.2.1.2.1 r.2.2.2.1.2.2.1.1 r.2.2.2.1.2.2.1.2.1 r.2.2.2.1.2.2.1.2.2 r.2.2.2.1.2.2.2 r.2.2.2.2.1 r.2.2.2.2.2.1 r.2.2.2.2.2.2.1.1 r.2.2.2.2.2.2.1.2 r.2.2.2.2.2.2.2 0 0 0 0 0 0 ak ak 0 [] [] [] [] [])
   = some ((tK c r k).1,(tK c r k).2,())
 |0,n+1,b,d=>by rw[FO,aQ (show ¬((0:Nat):Int)-1>=0 by omega),aa,ZB];rfl
 |k+1,n+1,b,d=>by
  have a:k<r.2.2.2.2.2.1.length:=by omega
  have f:=h.f.l.t;have e:=ac9 h (r.2.2.2.2.2.1[k]).1 (h.l.tq _ (bH a)).1 true;rw[FO,show((k+1:Nat):Int)-1=(k:Int) by omega,aL (show(k:Int)>=0 by omega),ae,an a,ab,aT a,LL];unfold tK;rw[aJ a,show((r.2.2.2.2.2.1[k]).2.1.toList==ak.toList)=dj (r.2.2.2.2.2.1[k]).2.1 from rfl];cases g:dj (r.2.2.2.2.2.1[k]).2.1 with
  |true =>
   rw[ag rfl,aN,aa,aI (by omega) (by omega)];exact aum h k n (by omega) (by omega)
  |false =>
   rw[af (by decide),eh,ae];refine B9 (oh (fun x=>Option.bind x _) e) ?_;rw[ai];cases (fI c r (r.2.2.2.2.2.1[k]).1 (r.2.2.2.2.2.1[k]).2.1 true).2 with
   |false=>rfl|true=>rw[LL];rfl
def axn {c:Int×Int}{r:aw}(h:aY c r):ET F0 c r=some ((auk c r).1,(auk c r).2,()):=by have a:=h.f.l.t;rw[ah9,aI (by omega) (by omega)];exact aum h r.2.2.2.2.2.1.length F0.n (bG _) (by rw[bB];omega)
def EZ (r:aw)(d:oN):aw:=(r.1,r.2.1,r.2.2.1,r.2.2.2.1,r.2.2.2.2.1,r.2.2.2.2.2.1,d,r.2.2.2.2.2.2.2)
def Yn (r:aw)(keep:Int):aw:=EZ r (ej r.2.2.2.2.2.2.1 keep)
def ur (c:Int×Int)(r:aw)(keep:Int):aw:=aw5 c (Yn r keep)
def aY.Yn {c:Int×Int}{r:aw}(h:aY c r)(keep:Int):aY c (Yn r keep):=by
 have b:=Rw h.f.d keep;have d:=cv.1 h.f.d;have e:ej r.2.2.2.2.2.2.1 keep=(r.2.2.2.2.2.2.1.1.take (F3 r.2.2.2.2.2.2.1 keep).toNat,F3 r.2.2.2.2.2.2.1 keep):=ag h.f.d;refine⟨⟨h.f.cf,h.f.i,h.f.v,h.f.a,h.f.s,h.f.p,h.f.t,?_,h.f.n,h.f.h⟩,?_⟩
 .show fE (ej r.2.2.2.2.2.2.1 keep)=true;rw[e];refine cv.2 ⟨?_,?_,?_⟩
  .dsimp only;rw[bz];omega
  .dsimp only;omega
  .dsimp only;rw[bz];omega
 .show ∀x∈(ej r.2.2.2.2.2.2.1 keep).1,_;rw[e];exact fun x a=>h.b x (Vi a)
def adg {c:Int×Int}(a:bq c=true):bh c kd=true:=by unfold bh eV ZK kd;simp only[a,gp];rfl
def aFI {c:Int×Int}{b:List Int}(a:bq c=true):bh c (oc c b).1=true:=by
 unfold oc;split
 .rename_i h;exact h.2.2
 .exact adg a
def azS {c:Int×Int}{b:List Int}(e:bq c=true):∀(f:Nat) (s:bd) (a:Nat),bh c s=true->bh c (Bw c b f s a).1=true
 |0,_,_,h=>h|f+1,s,a,h=>by
  cases d:HY c b a with
  |none=>rw[iz d];exact h
  |some z =>
   obtain⟨j,k⟩:=z;rw[Da d];refine azS e f j k ?_;cases g:rD b a with
   |none=>rw[C9 g]at d;cases d
   |some y =>
    obtain⟨v,l⟩:=y;rw[C8 g]at d;split at d
    .cases d
    .split at d
     .cases d
     .split at d
      .have i:=oh Prod.fst (eT d);dsimp only at i;rw[<-i];exact aFI e
      .cases d
def azT {c:Int×Int}(a:bq c=true)(b:List Int):bh c (cD c b).1=true:=azS a _ _ _ (adg a)
def aY.aLk {c:Int×Int}{r:aw}(h:aY c r):aY c (aw5 c r):=by
 have b:=azT h.f.cf r.2.2.2.2.2.2.1.1;have d:=OF c h.bt.d;have e:=cv.1 h.f.d;obtain⟨f,g,i,j⟩:=cM b;refine⟨⟨h.f.cf,h.f.i,?_,rfl,b,rfl,rfl,?_,aR _,fun x a=>by cases a⟩,fun x a=>h.b x (Vi a)⟩
 .show gp 1 60 (aqE (cD c r.2.2.2.2.2.2.1.1).1)=true;simp only[gp,aG,bV];unfold aqE GS tc
  repeat' split
  all_goals omega
 .show fE (r.2.2.2.2.2.2.1.1.take (cD c r.2.2.2.2.2.2.1.1).2,((cD c r.2.2.2.2.2.2.1.1).2:Int))=true;refine cv.2 ⟨?_,?_,?_⟩
  .dsimp only;rw[bz];omega
  .dsimp only;omega
  .dsimp only;rw[bz];omega
def aY.ur {c:Int×Int}{r:aw}(h:aY c r)(keep:Int):aY c (ur c r keep):=(h.Yn keep).aLk
abbrev de:=Int×Int×Int×b0
def axo (imp:Bool)(c:Int×Int)(r:aw)(m:b0):aw×Int:=if (GU imp c r m).2=true/\m.1=4 then ((GU imp c r m).1,0) else (r,3)
def adh (imp:Bool)(c:Int×Int)(r:aw)(d:de):aw×Int :=
 if d.1=1 then Ym c r else if d.1=6 then auk c r else if d.1=7 then (if (B7 c r).2=true then ((B7 c r).1,0) else (r,3)) else if d.1=8 then (ur c r d.2.2.1,0) else axo imp c r d.2.2.2
def aY.adh {c:Int×Int}{r:aw}(h:aY c r)(imp:Bool)(d:de):aY c (adh imp c r d).1:=by
 unfold Tryz.adh;split
 .exact h.Ym
 .split
  .exact azR h _
  .split
   .split
    .exact h.aLj
    .exact h
   .split
    .exact h.ur _
    .unfold axo;split
     .exact h.heard _ _
     .exact h
def aJh {imp:Bool}{c:Int×Int}{r:aw}{d:de}:(adh imp c r d).1.1=r.1:=by
 unfold adh;split
 .exact aJg
 .split
  .exact aul _
  .split
   .split
    .exact aHy
    .rfl
   .split
    .rfl
    .unfold axo;split
     .exact axm
     .rfl
def azU {c:Int×Int}{r:aw}(h:aY c r){d:de}(j:fU d.2.2.2):Jj F0 c r d=some ((adh true c r d).1,(adh true c r d).2,()):=by
 have k:Rg F0 c (r.1,r.2.1,r.2.2.1,r.2.2.2.1,r.2.2.2.2.1,r.2.2.2.2.2.1,ej r.2.2.2.2.2.2.1 d.2.2.1,r.2.2.2.2.2.2.2)=some (ur c r d.2.2.1,()):=aFw (h.Yn d.2.2.1).bt (h.Yn d.2.2.1).ok;rw[amq,dW h.bt,ai,azQ h,ai,axn h,ai,aFC h,ai,azu h.bt.d.1,ai,aui h j,ai];dsimp only;rw[k,ai];unfold adh;by_cases a:d.1=1
 .rw[bf.2 a,ae,ag a]
 .rw[bT.2 a,aa,af a];by_cases b:d.1=6
  .rw[bf.2 b,ae,ag b]
  .rw[bT.2 b,aa,af b];by_cases e:d.1=7
   .rw[bf.2 e,ae,ag e];cases (B7 c r).2<;>rfl
   .rw[bT.2 e,aa,af e];by_cases f:d.1=8
    .rw[bf.2 f,ae,ag f]
    .rw[bT.2 f,aa,af f];unfold axo;cases (GU true c r d.2.2.2).2 with
     |false=>rw[af (fun i=>by cases i.1)];rfl
     |true =>
      by_cases g:d.2.2.2.1=4
      .rw[ag ⟨rfl,g⟩,bf.2 g];rfl
      .rw[af (fun i=>g i.2),bT.2 g];rfl
def E0:ah:=((0,0),[],[],[],[])
def aun (c:Int×Int)(x:gw):Prop:=da x.2/\(gy c x.2).2=true/\gp 0 (aj (c.1-1)) x.1=true
def azV (c:Int×Int)(x:cJ):Prop:=gp 0 (aj (c.1-1)) x.2.2=true/\bg x.2.1.data.toList=true/\aD x.2.1.data.toList=x.1
structure aF (w:ah):Prop where
 c:bq w.1=true
 l:iH w.1.1 w.2.1=true
 lf:(w.2.1.length:Int)<=tG w.1
 n:(w.2.2.1.length:Int)=w.1.1
 g:∀r∈w.2.2.1,aY w.1 r
 id:∀(k:Nat) (h:k<w.2.2.1.length),(w.2.2.1[k]).1=(k:Int)
 nl:w.2.2.2.1.length<=60
 nb:∀x∈w.2.2.2.1,aun w.1 x
 sl:w.2.2.2.2.length<=300
 sb:∀x∈w.2.2.2.2,azV w.1 x
def aF.le7 {w:ah}(h:aF w):4<=w.2.2.1.length/\w.2.2.1.length<=7:=by have:=b3 h.c;have:=h.n;omega
def aF.liars {w:ah}(h:aF w):w.2.1.length<=7:=by have a:=b3 h.c;have:=aiE h.l;omega
def aCk {c:Int×Int}{x:cJ}(h:azV c x):x.2.1.size<=1048576:=bX (o7 h.2.1) (by omega)
def aF.w {w:ah}(h:aF w):Pm w :=
 ⟨⟨by have:=h.liars;omega,by have:=h.le7;omega,fun x a=>(h.g x a).l,by have:=h.nl;omega,fun x a=>(h.nb x a).1,by have:=h.sl;omega,fun x a=>aCk (h.sb x a)⟩,fun r b=>(h.g r b).bt.d⟩
def JT {U:Type}{l:List U}{k:Nat}(h:k<l.length)(d:U):l.getD k d=l[k]:=aJ h d
def aF.ok {w:ah}(h:aF w):fa w=true:=by
 unfold fa aqg Jt s9;simp only[aG,ai6,axK,SZ,eb,eU];refine⟨h.c,h.l,by have:=h.lf;omega,h.n,by have:=h.nl;omega,by have:=h.sl;omega,fun k a=>?_,fun k a=>?_,fun k a=>?_⟩
 .unfold aqf;rw[JT a,aG,bf];exact⟨(h.g _ (bH a)).ok,h.id k a⟩
 .unfold acV;rw[JT a,aG];exact(h.nb _ (bH a)).2
 .unfold acW;rw[JT a,aG,aG,bf];exact h.sb _ (bH a)
def aF.of {w:ah}(h:fa w=true)(e:∀x∈w.2.2.2.1,da x.2)(f:∀r∈w.2.2.1,∀x∈r.2.2.2.2.2.2.1.1,0<=x/\x<=255):aF w:=by
 unfold fa aqg Jt s9 at h;simp only[aG,ai6,axK,SZ,eb,eU]at h;obtain⟨g,i,o,j,p,q,l,m,n⟩:=h;have c:∀k (a:k<w.2.2.1.length),mZ w.1 w.2.2.1[k]=true/\(w.2.2.1[k]).1=(k:Int):=fun k a=>by have:=l k a;unfold aqf at this;rw[JT a,aG,bf]at this;exact this
 refine⟨g,i,by omega,j,fun r d=>?_,fun k a=>(c k a).2,by omega,fun x b=>?_,by omega,fun x b=>?_⟩
 .obtain⟨k,a,rfl⟩:=ai4 d;exact⟨Df.1 (c k a).1,f _ d⟩
 .obtain⟨k,a,rfl⟩:=ai4 b;have:=m k a;unfold acV at this;rw[JT a,aG]at this;exact⟨e _ b,this⟩
 .obtain⟨k,a,rfl⟩:=ai4 b;have:=n k a;unfold acW at this;rw[JT a,aG,aG,bf]at this;exact this
def bP (w:ah)(a:Int):aw:=w.2.2.1.getD a.toNat abr
def dX (w:ah)(a:Int)(r:aw):ah:=(w.1,w.2.1,w.2.2.1.set a.toNat r,w.2.2.2)
def aCl {w:ah}{a:Int}(b:0<=a)(c:a<w.2.2.1.length):bP w a∈w.2.2.1:=by unfold bP;rw[aJ (show a.toNat<w.2.2.1.length by omega)];exact bH _
def aF.rep {w:ah}(h:aF w){a:Int}(b:0<=a)(c:a<w.2.2.1.length):aY w.1 (bP w a)/\(bP w a).1=a:=by refine⟨h.g _ (aCl b c),?_⟩;unfold bP;rw[aJ (show a.toNat<w.2.2.1.length by omega),h.id _ (show a.toNat<w.2.2.1.length by omega)];omega
def aF.dX {w:ah}(h:aF w){a:Int}(i:0<=a){r:aw}(d:aY w.1 r)(hi:r.1=a):aF (dX w a r):=by
 refine⟨h.c,h.l,h.lf,by show((w.2.2.1.set a.toNat r).length:Int)=_;rw[ni];exact h.n,fun x b=>?_,fun k f=>?_,h.nl,h.nb,h.sl,h.sb⟩
 .rcases aAs b with b|rfl
  .exact h.g x b
  .exact d
 .have c:k<(w.2.2.1.set a.toNat r).length:=f;have g:((w.2.2.1.set a.toNat r)[k]'c).1=(k:Int):=by
   rw[List.getElem_set];split
   .rename_i e;rw[hi];omega
   .exact h.id k (by rw[ni]at c;exact c)
  exact g
def aD9 {c:Int×Int}{q:bZ}(d:bg q.2.1.data.toList=true)(e:q.2.1.data.toList≠[]->aD q.2.1.data.toList=q.1){id:Int}(hi:gp 0 (aj (c.1-1)) id=true):∀x∈UR id q,azV c x:=by
 intro x a;unfold UR at a;cases b:dj q.2.1 with
 |true=>rw[b,ag rfl]at a;cases a
 |false =>
  rw[b,af (by decide)]at a;split at a
  .rw[fm.1 a];refine⟨hi,d,e fun f=>?_⟩;rw[(rE _).2 f]at b;cases b
  .cases a
def aHA {c:Int×Int}{m:b0}(e:c9 c m=true){id:Int}(hi:gp 0 (aj (c.1-1)) id=true):∀x∈cH id m,azV c x:=by
 have a:=agc e;have b:∀q:bZ,eV c q=true->∀x∈UR id q,azV c x:=fun q f=>by obtain⟨_,g,h,_⟩:=j9 f;exact aD9 g (fun _=>h) hi
 rcases a.k with k|k|k|k
 .have d:=a.b k;simp only[fF,aG]at d;unfold cH;rw[af (by omega),af (by omega),ag k];exact b _ d.1
 .obtain⟨_,_,_,_,_,i,j⟩:=afU (a.p k).1;unfold cH;rw[af (by omega),ag k];exact aD9 i j hi
 .unfold cH;rw[af (by omega),af (by omega),af (by omega)];exact b _ (a.v k).2.1
 .unfold cH;rw[ag k];exact fun x l=>by cases l
def aCm {l:List cJ}{y x:cJ}(h:x∈Dh l y):x∈l\/x=y:=by
 unfold Dh at h;split at h
 .rcases gK.1 h with h|h
  .exact .inl h
  .exact .inr (fm.1 h)
 .exact .inl h
def aq0:∀{ys l:List cJ} {x:cJ},x∈ys.foldl Dh l->x∈l\/x∈ys
 |[],_,_,h=>.inl h|y::ys,l,x,h=>by
  rcases aq0 (ys:=ys) h with h|h
  .rcases aCm h with h|rfl
   .exact .inl h
   .exact .inr pZ
  .exact .inr (jN _ h)
def Yo {id:Int}:∀{ps:List jB} {l:List cJ} {x:cJ},x∈Y8 id ps l->x∈l\/∃p∈ps,x∈cH id p.2
 |[],_,_,h=>.inl h|p::ps,l,x,h=>by
  rcases Yo (ps:=ps) h with h|⟨q,a,h⟩
  .rcases aq0 h with h|h
   .exact .inl h
   .exact .inr ⟨p,pZ,h⟩
  .exact .inr ⟨q,jN _ a,h⟩
def dB {w:ah}{id:Int}(h:id∈av w):0<=id/\id<w.2.2.1.length:=by have:=aix w.2.1 w.2.2.1.length id h;exact this
def aF.gp {w:ah}(h:aF w){a:Int}(c:0<=a)(d:a<w.2.2.1.length):gp 0 (aj (w.1.1-1)) a=true:=by have b:=b3 h.c;have e:=h.n;rw[XZ b.1 b.2.1];simp only[Tryz.gp,aG,bV];omega
def aF.aCn {w:ah}(h:aF w){a:Int}(b:Tryz.gp 0 (aj (w.1.1-1)) a=true):0<=a/\a<w.2.2.1.length:=by have c:=b3 h.c;have d:=h.n;rw[XZ c.1 c.2.1]at b;simp only[Tryz.gp,aG,bV]at b;omega
def aF.lN {w:ah}(h:aF w)(id:Int){list:List jB}(d:∀p∈list,c9 w.1 p.2=true):aF (lN w id list):=by
 unfold Tryz.lN;by_cases b:id∈av w
 .rw[ag b];have c:=dB b;refine⟨h.c,h.l,h.lf,h.n,h.g,h.id,h.nl,h.nb,akp id h.sl,fun x a=>?_⟩;rcases Yo a with a|⟨p,e,a⟩
  .exact h.sb x a
  .exact aHA (d p e) (h.gp c.1 c.2) x a
 .rw[af b];exact h
def auo {c:Int×Int}{m:b0}(h:c9 c m=true){a:Int}(b:gp 0 (aj (c.1-1)) a=true):aun c (a,Dd m):=by have d:=aqA h;exact⟨⟨by dsimp only;omega,d.2.1⟩,by rw[aiF h],b⟩
def aq1 {c:Int×Int}:∀{ps:List jB} {l:List gw} {x:gw},x∈aqY c ps l->x∈l\/aun c x
 |[],_,_,h=>.inl h|p::ps,l,x,h=>by
  rcases aq1 (ps:=ps) h with h|h
  .unfold abC at h;split at h
   .rename_i a;rcases gK.1 h with h|h
    .exact .inl h
    .rw[fm.1 h];exact .inr (auo a.2.1 a.2.2)
   .exact .inl h
  .exact .inr h
def aq2 {c:Int×Int}:∀{ps:List jB} {l:List gw},l.length<=60->(aqY c ps l).length<=60
 |[],_,h=>h|p::ps,l,h=>aq2 (ps:=ps) (aiQ h p)
def aF.send {w:ah}(h:aF w)(list:List jB):aF (uq w list) :=
 ⟨h.c,h.l,h.lf,h.n,h.g,h.id,aq2 h.nl,fun x a=>(aq1 a).elim (h.nb x) (fun h=>h),h.sl,h.sb⟩
def aF.Yp {w:ah}(h:aF w){a:List gw}(b:a.length<=60)(c:∀x∈a,aun w.1 x):aF (w.1,w.2.1,w.2.2.1,a,w.2.2.2.2) :=
 ⟨h.c,h.l,h.lf,h.n,h.g,h.id,b,c,h.sl,h.sb⟩
def aY.axp {c:Int×Int}{r:aw}(h:aY c r):∀p∈r.2.2.2.2.2.2.2,c9 c p.2=true:=fun p a=>azA (h.f.h p a)
def aY.aJY {c:Int×Int}{r:aw}(h:aY c r):∀p∈r.2.2.2.2.2.2.2,fU p.2:=fun p a=>axb (h.axp p a)
def Good (w:ah):Prop:=Pm w/\(fa w=true->aF w)
def aF.aCo {w:ah}(h:aF w):Good w:=⟨h.w,fun _=>h⟩
def aF.aJZ {w:ah}(h:aF w){a:List gw}(f:a.length<=61)(c:∀x∈a,aun w.1 x):Good (w.1,w.2.1,w.2.2.1,a,w.2.2.2.2) :=
 ⟨⟨⟨h.w.l.l,h.w.l.r,h.w.l.rl,by show a.length<=_;omega,fun x b=>(c x b).1,h.w.l.s,h.w.l.st⟩,h.w.b⟩,fun d=>aF.of d (fun x b=>(c x b).1) fun r e=>(h.g r e).b⟩
def JA {w:ah}{a:Int}(c:0<=a)(e:a<w.2.2.1.length)(d:aw):aH w.2.2.1 a d=bP w a:=by
 have b:a.toNat<w.2.2.1.length:=by omega
 unfold bP;rw[aJ b];exact aJ b d
def aEa (l:List cJ)(id:Int)(list:List jB):Bool:=list.all fun p=>(cH id p.2).all fun x=>kh l x.1 x.2.1 x.2.2
def a1 (w:ah)(a:Int):List jB:=(bP w a).2.2.2.2.2.2.2
def gz (w:ah)(a:Int):ah:=dX (lN w a (a1 w a)) a (HZ (bP w a))
def lO (w:ah)(a:Int):ah×Int :=
 if aEa (lN w a (a1 w a)).2.2.2.2 a (a1 w a)=true then (if w.2.2.2.1.length+(a1 w a).length<=60 then (uq (gz w a) (a1 w a),0) else (w,4)) else (w,4)
def adi (w:ah)(id:Int)(list:List jB):(lN w id list).1=w.1/\(lN w id list).2.2.1=w.2.2.1/\(lN w id list).2.2.2.1=w.2.2.2.1:=by unfold lN;split<;>exact⟨rfl,rfl,rfl⟩
def aF.gz {w:ah}(h:aF w){a:Int}(b:0<=a)(d:a<w.2.2.1.length):aF (gz w a):=by obtain⟨c,f⟩:=h.rep b d;have g:=h.lN a (list:=a1 w a) c.axp;have e:=(adi w a (a1 w a)).1;exact g.dX b (by rw[e];exact c.HZ) f
def axq {w:ah}(h:aF w){a:Int}(c:0<=a)(i:a<w.2.2.1.length):ED F0 w a=some ((lO w a).1,(lO w a).2,()):=by
 obtain⟨f,C⟩:=h.rep c i;have j:=f.aJY;have D:(a1 w a).length<=30:=f.f.n;have l:=h.lN a (list:=a1 w a) f.axp;have t:=axf f;have u:=aCi h.w h.sl a (list:=a1 w a) (by omega) j;have o:=(adi w a (a1 w a)).2.1;have d:=h.gz c i;rw[ahN,iW c (by omega),ab,JA c i,t,ai];refine B9 (oh (fun x=>Option.bind x _) u) ?_;rw[ai];dsimp only;generalize v:HZ (bP w a)=S;generalize q:lN w a (a1 w a)=O at l o d;have y:∀n,fy F0 (.exit 0) (wE a w.1.1 w.1.2 w.2.1 w.2.2.1 w.2.2.2.1 w.2.2.2.2 0 0 S.1 S.2.1 S.2.2.1 S.2.2.2.1.1 S.2.2.2.1.2.1 S.2.2.2.1.2.2.1.1 S.2.2.2.1.2.2.1.2.1 S.2.2.2.1.2.2.2 S.2.2.2.2.2.2.1.2 O.1.1 O.1.2 (a1 w a) [] [] [] [] S.2.2.2.1.2.2.1.2.2 S.2.2.2.2.1 S.2.2.2.2.2.1 S.2.2.2.2.2.2.1.1 S.2.2.2.2.2.2.2 O.2.1 O.2.2.1 O.2.2.2.1 O.2.2.2.2)=(fun _:Nat=>some (if w.2.2.2.1.length+(a1 w a).length<=60 then (uq (gz w a) (a1 w a),(0:Int),()) else (w,4,()))) n:=fun n=>by
  have r:dX O a S=gz w a:=by unfold gz;rw[q,v]
  rw[<-r]at d;have z:QS F0 ((O.1.1,O.1.2),O.2.1,O.2.2.1.set a.toNat (S.1,S.2.1,S.2.2.1,(S.2.2.2.1.1,S.2.2.2.1.2.1,(S.2.2.2.1.2.2.1.1,S.2.2.2.1.2.2.1.2.1,S.2.2.2.1.2.2.1.2.2),S.2.2.2.1.2.2.2),S.2.2.2.2.1,S.2.2.2.2.2.1,(S.2.2.2.2.2.2.1.1,S.2.2.2.2.2.2.1.2),S.2.2.2.2.2.2.2),O.2.2.2.1,O.2.2.2.2) (a1 w a)=some (uq (dX O a S) (a1 w a),()):=by have:=aFH d.w d.nl (list:=a1 w a) (by omega) j;rw[d.ok,ag rfl]at this;exact this
  have E:=h.nl;rw[Zw,aI (by omega) (by omega),iW c (by rw[o];omega),ab,z,ai];by_cases s:w.2.2.2.1.length+(a1 w a).length<=60
  .rw[aQ (show ¬(w.2.2.2.1.length:Int)+(a1 w a).length>60 by omega),aa];dsimp only;rw[ag s,r]
  .rw[aL (show(w.2.2.2.1.length:Int)+(a1 w a).length>60 by omega),ae];dsimp only;rw[af s]
 have A:=eM (fun n k=>oF F0 (fy F0) n (k7 a ((a1 w a).length:Int) k w.1.1 w.1.2 w.2.1 w.2.2.1 w.2.2.2.1 w.2.2.2.2 0 0 S.1 S.2.1 S.2.2.1 S.2.2.2.1.1 S.2.2.2.1.2.1 S.2.2.2.1.2.2.1.1 S.2.2.2.1.2.2.1.2.1 S.2.2.2.1.2.2.2 S.2.2.2.2.2.2.1.2 O.1.1 O.1.2 (a1 w a) [] [] [] [] S.2.2.2.1.2.2.1.2.2 S.2.2.2.2.1 S.2.2.2.2.2.1 S.2.2.2.2.2.2.1.1 S.2.2.2.2.2.2.2 O.2.1 O.2.2.1 O.2.2.2.1 O.2.2.2.2)) (a1 w a).length
  (fun k=>(cH a ((a1 w a).getD k awP).2).all fun x=>kh O.2.2.2.2 x.1 x.2.1 x.2.2) (some (if w.2.2.2.1.length+(a1 w a).length<=60 then (uq (gz w a) (a1 w a),(0:Int),()) else (w,4,()))) (some (w,4,()))
  (fun n k e=>?_) (fun n=>?_) F0.n (by rw[bB];omega)
 .refine B9 A ?_;rw[LY (a1 w a) (fun p=>(cH a p.2).all fun x=>kh O.2.2.2.2 x.1 x.2.1 x.2.2) awP];unfold lO aEa;rw[q];cases ((a1 w a).all fun p=>(cH a p.2).all fun x=>kh O.2.2.2.2 x.1 x.2.1 x.2.2) with
  |false=>rfl
  |true =>
   rw[ag rfl,ag rfl];split<;>rfl
 .have F:=ade a ((a1 w a)[k]).2;rw[FG,aM e,ae,an e,ab,aT e,ako (j _ (bH e)),ai,aJ e];have B:=eM (fun m b=>vF F0 (pN F0 (fy F0) n) m (pM a ((a1 w a).length:Int) (k:Int) ((cH a ((a1 w a)[k]).2).length:Int) b w.1.1 w.1.2 w.2.1 w.2.2.1 w.2.2.2.1 w.2.2.2.2 0 0 S.1 S.2.1 S.2.2.1 S.2.2.2.1.1 S.2.2.2.1.2.1 S.2.2.2.1.2.2.1.1 S.2.2.2.1.2.2.1.2.1 S.2.2.2.1.2.2.2 S.2.2.2.2.2.2.1.2 O.1.1 O.1.2 (a1 w a) (cH a ((a1 w a)[k]).2) [] [] [] [] S.2.2.2.1.2.2.1.2.2 S.2.2.2.2.1 S.2.2.2.2.2.1 S.2.2.2.2.2.2.1.1 S.2.2.2.2.2.2.2 O.2.1 O.2.2.1 O.2.2.2.1 O.2.2.2.2)) (cH a ((a1 w a)[k]).2).length
   (fun b=>(fun x:cJ=>kh O.2.2.2.2 x.1 x.2.1 x.2.2) ((cH a ((a1 w a)[k]).2).getD b L7)) (oF F0 (fy F0) n (k7 a ((a1 w a).length:Int) ((k+1:Nat):Int) w.1.1 w.1.2 w.2.1 w.2.2.1 w.2.2.2.1 w.2.2.2.2 0 0 S.1 S.2.1 S.2.2.1 S.2.2.2.1.1 S.2.2.2.1.2.1 S.2.2.2.1.2.2.1.1 S.2.2.2.1.2.2.1.2.1 S.2.2.2.1.2.2.2 S.2.2.2.2.2.2.1.2 O.1.1 O.1.2 (a1 w a) [] [] [] [] S.2.2.2.1.2.2.1.2.2 S.2.2.2.2.1 S.2.2.2.2.2.1 S.2.2.2.2.2.2.1.1 S.2.2.2.2.2.2.2 O.2.1 O.2.2.1 O.2.2.2.1 O.2.2.2.2)) (some (w,4,()))
   (fun m b g=>?_) (fun m=>?_) F0.n (by rw[bB];omega)
  .refine B9 B ?_;rw[LY (cH a ((a1 w a)[k]).2) (fun x:cJ=>kh O.2.2.2.2 x.1 x.2.1 x.2.2) L7]
  .have G:=l.sl;rw[FF,aM g,ae,an g,ab,aT g,Dg (by omega),ai,acx,acy,al (by omega),aJ g];rcases Bool.eq_false_or_eq_true (kh O.2.2.2.2 (cH a ((a1 w a)[k]).2)[b].1 (cH a ((a1 w a)[k]).2)[b].2.1 (cH a ((a1 w a)[k]).2)[b].2.2) with hs|hs
   .simp only[hs,aN,aa,gL]
   .simp only[hs,eh,ae];rfl
  .rw[FF,aE,aa,Zv,al (by omega)]
 .rw[FG,aE,aa];exact y n
def adj (a:List gw)(k:Nat):List gw:=a.take k++a.drop (k+1)
def cV (w:ah)(a:Int):gw:=w.2.2.2.1.getD a.toNat aBA
def Yp (w:ah)(a:List gw):ah:=(w.1,w.2.1,w.2.2.1,a,w.2.2.2.2)
def OL (w:ah)(a:Int):ah:=Yp w (adj w.2.2.2.1 a.toNat)
def aiT (imp:Bool)(w:ah)(x:gw):aw:=(GU imp w.1 (bP w x.1) (gy w.1 x.2).1).1
def agh (imp:Bool)(w:ah)(a:Int):ah:=if (cV w a).1∈av w then dX (OL w a) (cV w a).1 (aiT imp w (cV w a)) else OL w a
def aq3 (w:ah)(d:de):ah×Int :=
 if d.1=3 then (agh true w d.2.1,0) else if d.1=4 then (OL w d.2.1,0) else if d.1=5 then (Yp w (w.2.2.2.1++[cV w d.2.1]),0)
 else if GV w.1 w.2.1 w.2.2.2.2 d.2.2.2=true then (Yp w (w.2.2.2.1++[(d.2.1,Dd d.2.2.2)]),0) else (w,5)
def adk {a:List gw}{k:Nat}{x:gw}(h:x∈adj a k):x∈a:=by
 rcases gK.1 h with h|h
 .exact Vi h
 .exact auK h
def aCp (a:List gw)(k:Nat):(adj a k).length<=a.length:=by unfold adj;rw[aK,bz,bc];omega
def aF.OL {w:ah}(h:aF w)(a:Int):aF (OL w a):=h.Yp (bX (aCp _ _) h.nl) fun x b=>h.nb x (adk b)
def aF.agh {w:ah}(h:aF w)(imp:Bool)(a:Int):aF (agh imp w a):=by
 unfold Tryz.agh;split
 .rename_i c;have b:=dB c;obtain⟨d,hid⟩:=h.rep b.1 b.2;exact(h.OL a).dX b.1 (d.heard imp _) (by unfold aiT;rw[axm];exact hid)
 .exact h.OL a
def aF.aJi {w:ah}(h:aF w){a:Int}(b:0<=a)(c:a<w.2.2.2.1.length):aun w.1 (cV w a):=by refine h.nb _ ?_;unfold cV;rw[aJ (show a.toNat<w.2.2.2.1.length by omega)];exact bH _
def aq4 {c:Int×Int}{b:List Int}(h:(gy c b).2=true):fU (gy c b).1/\c9 c (gy c b).1=true:=by
 have:c9 c (gy c b).1=true:=by
  unfold gy fin at h ⊢;split at h
  .rename_i a;rw[ag a];exact a.2.2
  .cases h
 exact⟨axb this,this⟩
def akr {w:ah}(h:aF w){d:de}(i:fU d.2.2.2)(l:d.1=3\/d.1=4\/d.1=5->0<=d.2.1/\d.2.1<w.2.2.2.1.length):n5 F0 w d=some ((aq3 w d).1,(aq3 w d).2,()):=by
 have r:=h.nl;have hlen:=x2 w;have s:=h.le7;rw[amg,lI h.w,ai];dsimp only;unfold aq3;by_cases k:d.1=3\/d.1=4\/d.1=5
 .obtain⟨f,j⟩:=l k;have b:=h.aJi f j;obtain⟨m,t⟩:=aq4 b.2.1;have n:aj (d.2.1+1)=d.2.1+1:=aI (by omega) (by omega);have o:(d.2.1+1).toNat=d.2.1.toNat+1:=by omega
  have ex:∀a:gw,aH w.2.2.2.1 d.2.1 a=cV w d.2.1:=fun a=>by
   unfold cV;have c:d.2.1.toNat<w.2.2.2.1.length:=by omega
   rw[aJ c];show w.2.2.2.1.getD d.2.1.toNat a=_;exact aJ c a
  obtain⟨t0,t1⟩:=h.aCn b.2.2;obtain⟨p,hid⟩:=h.rep t0 t1;have q:∀a:aw,JK F0 w.1 (aH w.2.2.1 (cV w d.2.1).1 a) (gy w.1 (cV w d.2.1).2).1=some ((GU true w.1 (bP w (cV w d.2.1).1) (gy w.1 (cV w d.2.1).2).1).1,(GU true w.1 (bP w (cV w d.2.1).1) (gy w.1 (cV w d.2.1).2).1).2,()):=fun a=>by
   have c:(cV w d.2.1).1.toNat<w.2.2.1.length:=by omega
   have:aH w.2.2.1 (cV w d.2.1).1 a=bP w (cV w d.2.1).1:=by unfold bP;rw[aJ c];exact aJ c a
   rw[this];exact aui p m
  rw[iW f j,ab,n,aiA f (by omega) (by omega),ab,ab,ab,ex,acU b.1,ai,b.2.1,ae,lr h.w.l,ai,eA (by dsimp only;omega),ai,iW t0 t1,ab,q,ai,afY b.1.1,ai,ar (by omega) (by omega) (by first|omega|(simp only[aK,aW,bj];omega)|(rw[bc,bz];omega)),ab];dsimp only;rw[ab,o];rcases k with k|k|k
  .rw[bf.2 k,ae,ag k];unfold agh;by_cases e:(cV w d.2.1).1∈av w
   .rw[aL e,ae,ag e];rfl
   .rw[aQ e,aa,af e];rfl
  .rw[bT.2 (show d.1≠3 by omega),aa,bf.2 k,ae,af (by omega),ag k];rfl
  .rw[bT.2 (show d.1≠3 by omega),aa,bT.2 (show d.1≠4 by omega),aa,bf.2 k,ae,af (by omega),af (by omega),ag k];rfl
 .have u:=h.liars;have v:=h.sl;rw[bT.2 (show d.1≠3 by omega),aa,bT.2 (show d.1≠4 by omega),aa,bT.2 (show d.1≠5 by omega),aa,af (by omega),af (by omega),af (by omega),azN (by omega) (by omega) i,ai,abx i,ai,ar (by omega) (by omega) (by first|omega|(simp only[aK,aW,bj];omega)|(rw[bc,bz];omega)),ab];cases g:GV w.1 w.2.1 w.2.2.2.2 d.2.2.2 with
  |false=>rfl
  |true =>
   have df:c9 w.1 d.2.2.2=true:=by unfold GV at g;rw[aG]at g;exact g.1
   dsimp only;rw[show afZ w.1 d.2.2.2=Dd d.2.2.2 from ag df];rfl
def H0 (d:de):Bool:=(d.1==3) || ((d.1==4) || (d.1==5))
def eC {d:de}:H0 d=true↔d.1=3\/d.1=4\/d.1=5:=by simp[H0]
def GW (w:ah)(d:de):Bool :=
 if H0 d=true then gp 0 (aj ((w.2.2.2.1.length:Int)-1)) d.2.1 else if d.1=10 then gp 0 (aj (w.1.1-1)) d.2.1 else decide (d.2.1∈av w)
def JU {w:ah}{d:de}(h:H0 d=true):GW w d=gp 0 (aj ((w.2.2.2.1.length:Int)-1)) d.2.1:=ag h
def aiU {w:ah}{d:de}(h:¬H0 d=true)(a:d.1=10):GW w d=gp 0 (aj (w.1.1-1)) d.2.1:=by unfold GW;rw[af h,ag a]
def td {w:ah}{d:de}(h:¬H0 d=true)(a:¬d.1=10):GW w d=decide (d.2.1∈av w):=by unfold GW;rw[af h,af a]
def azW {w:ah}(h:aF w)(d:de):I0 F0 w d=some (GW w d,()):=by
 have hlen:=x2 w;have i:=h.le7;rw[alW,bR,ai,bR,ai,lr h.w.l,ai,eA (by dsimp only;omega),ai];by_cases a:d.1=3
 .rw[bf.2 a,ae,JU (eC.2 (.inl a))]
 .rw[bT.2 a,aa];by_cases b:d.1=4
  .rw[bf.2 b,ae,JU (eC.2 (.inr (.inl b)))]
  .rw[bT.2 b,aa];by_cases c:d.1=5
   .rw[bf.2 c,ae,JU (eC.2 (.inr (.inr c)))]
   .have g:¬H0 d=true:=fun f=>(eC.1 f).elim a (fun f=>f.elim b c)
    rw[bT.2 c,aa];by_cases e:d.1=10
    .rw[bf.2 e,ae,aiU g e]
    .rw[bT.2 e,aa,td g e]
def agi (imp:Bool)(w:ah)(d:de):ah×Int:=(dX w d.2.1 (adh imp w.1 (bP w d.2.1) d).1,(adh imp w.1 (bP w d.2.1) d).2)
def aiV (w:ah)(d:de):ah×Int:=if d.1=2 then lO w d.2.1 else if H0 d=true\/d.1=10 then aq3 w d else agi true w d
def axr (w:ah)(x:ah×Int):ah×Int:=if x.2=0 then (if fa x.1=true then (x.1,0) else (w,4)) else (w,x.2)
def doI (w:ah)(d:de):ah×Int:=if gp 1 10 d.1=true then (if GW w d=true then axr w (aiV w d) else (w,2)) else (E0,1)
def RC {w:ah}(h:aF w){a:Int}(b:gp 0 (aj ((w.2.2.2.1.length:Int)-1)) a=true):0<=a/\a<w.2.2.2.1.length:=by have c:=h.nl;rw[aI (by omega) (by omega)]at b;simp only[gp,aG,bV]at b;omega
def aF.agi {w:ah}(h:aF w)(imp:Bool){d:de}(a:0<=d.2.1)(b:d.2.1<w.2.2.1.length):aF (agi imp w d).1:=by obtain⟨c,e⟩:=h.rep a b;exact h.dX a (c.adh imp d) (by rw[aJh];exact e)
def amS {w:ah}(h:aF w){a:Int}(b:0<=a)(c:a<w.2.2.1.length):aF (lO w a).1:=by
 unfold lO;split
 .split
  .exact(h.gz b c).send _
  .exact h
 .exact h
def Y9 {w:ah}(h:aF w){d:de}(f:H0 d=true->0<=d.2.1/\d.2.1<w.2.2.2.1.length)(g:¬H0 d=true->gp 0 (aj (w.1.1-1)) d.2.1=true):Good (aq3 w d).1:=by
 have m:=h.nl;unfold aq3;split
 .exact(h.agh true _).aCo
 .split
  .exact(h.OL _).aCo
  .split
   .rename_i b;obtain⟨i,j⟩:=f (eC.2 (.inr (.inr b)));refine h.aJZ (by rw[aK,cS];omega) fun x a=>?_
    rcases gK.1 a with a|a
    .exact h.nb x a
    .rw[fm.1 a];exact h.aJi i j
   .split
    .rename_i k l b c;have df:c9 w.1 d.2.2.2=true:=by unfold GV at c;rw[aG]at c;exact c.1
     refine h.aJZ (by rw[aK,cS];omega) fun x a=>?_
     rcases gK.1 a with a|a
     .exact h.nb x a
     .rw[fm.1 a];exact auo df (g fun e=>(eC.1 e).elim k (fun e=>e.elim l b))
    .exact h.aCo
def aHB {w:ah}(c:Pm w){x:ah×Int}(d:Good x.1) :
  br (x.2==0) ((b6 F0 x.1).bind fun e=>br (!e.1) (br ((4:Int) != 0) ((aS F0 w).bind fun b=>some (b.1,(4:Int),())) (some (x.1,0,()))) (br (x.2 != 0) ((aS F0 w).bind fun b=>some (b.1,x.2,())) (some (x.1,0,())))) (br (x.2 != 0) ((aS F0 w).bind fun b=>some (b.1,x.2,())) (some (x.1,0,())))=some ((axr w x).1,(axr w x).2,()):=by
 rw[gJ d.1.l,ai,lI c,ai,ai];unfold axr;by_cases a:x.2=0
 .rw[bf.2 a,ae,ag a,show(x.2 != 0)=false by simp[a]];cases fa x.1<;>rfl
 .rw[bT.2 a,aa,af a,show(x.2 != 0)=true by simp[a]];rfl
def aCq {w:ah}(h:aF w){d:de}(j:fU d.2.2.2):s5 F0 w d=some ((doI w d).1,(doI w d).2,()):=by
 have t:=h.le7;rw[aBi,gJ h.w.l,ai,h.ok,aN,aa,bR,ai,azW h,ai,lI h.w];unfold doI;cases u:gp 1 10 d.1 with
 |false=>rfl
 |true =>
  rw[ag rfl,aN,aa];cases c:GW w d with
  |false=>rfl
  |true =>
   rw[ag rfl,aN,aa];simp only[ai];have tail:∀x:ah×Int,Good x.1->_:=fun x p=>aHB h.w p
   rw[lI h.w]at tail;simp only[ai]at tail;unfold aiV;by_cases i:d.1=2
   .have a:d.2.1∈av w:=by rw[td (fun a=>by have:=eC.1 a;omega) (by omega)]at c;exact ng c
    obtain⟨e,f⟩:=dB a;rw[bf.2 i,ae,ag i,axq h e f,ai];exact tail _ (amS h e f).aCo
   .rw[bT.2 i,aa,af i];by_cases b:H0 d=true
    .have k:gp 0 (aj ((w.2.2.2.1.length:Int)-1)) d.2.1=true:=by rw[JU b]at c;exact c
     have m:=RC h k;have l:=akr h j (fun _=>m);have q:Good (aq3 w d).1:=Y9 h (fun _=>m) (fun a=>absurd b a);rw[ag (.inl b),l,ai];have fin:=tail _ q;by_cases n:d.1=3
     .rw[bf.2 n,ae];exact fin
     .rw[bT.2 n,aa];by_cases o:d.1=4
      .rw[bf.2 o,ae];exact fin
      .have r:d.1=5:=by have:=eC.1 b;omega
       rw[bT.2 o,aa,bf.2 r,ae];exact fin
    .have v:¬(d.1=3\/d.1=4\/d.1=5):=fun a=>b (eC.2 a)
     rw[bT.2 (show d.1≠3 by omega),aa,bT.2 (show d.1≠4 by omega),aa,bT.2 (show d.1≠5 by omega),aa];by_cases g:d.1=10
     .have k:gp 0 (aj (w.1.1-1)) d.2.1=true:=by rw[aiU b g]at c;exact c
      have l:=akr h j (fun a=>absurd (eC.2 a) b);rw[bf.2 g,ae,ag (.inr g),l,ai];exact tail _ (Y9 h (fun a=>absurd a b) (fun _=>k))
     .have a:d.2.1∈av w:=by rw[td b g]at c;exact ng c
      obtain⟨e,f⟩:=dB a;obtain⟨s,y⟩:=h.rep e f;rw[bT.2 g,aa,af (fun a=>a.elim b g),iW e (by omega),ab,JA e f,azU s j,ai,ab];exact tail (agi true w d) (h.agi true e f).aCo
def US (w:ah)(d:de):ah:=if (doI w d).2=0 then (doI w d).1 else w
def Yq (w:ah)(list:List de):ah:=list.foldl US w
def agj {w:ah}(h:aF w)(d:de):aF (US w d):=by
 unfold US;split
 .rename_i a;unfold doI at a ⊢;cases l:gp 1 10 d.1 with
  |false=>rw[l,af (by decide)]at a;exact absurd (show(1:Int)=0 from a) (by decide)
  |true =>
   rw[l,ag rfl]at a;rw[ag rfl];cases c:GW w d with
   |false=>rw[c,af (by decide)]at a;exact absurd (show(2:Int)=0 from a) (by decide)
   |true =>
    rw[c,ag rfl]at a;rw[ag rfl];have o:Good (aiV w d).1:=by
     unfold aiV;by_cases m:d.1=2
     .have b:d.2.1∈av w:=by rw[td (fun b=>by have:=eC.1 b;omega) (by omega)]at c;exact ng c
      obtain⟨g,i⟩:=dB b;rw[ag m];exact(amS h g i).aCo
     .rw[af m];by_cases e:H0 d=true
      .have j:gp 0 (aj ((w.2.2.2.1.length:Int)-1)) d.2.1=true:=by rw[JU e]at c;exact c
       rw[ag (.inl e)];exact Y9 h (fun _=>RC h j) (fun b=>absurd e b)
      .by_cases f:d.1=10
       .have j:gp 0 (aj (w.1.1-1)) d.2.1=true:=by rw[aiU e f]at c;exact c
        rw[ag (.inr f)];exact Y9 h (fun b=>absurd b e) (fun _=>j)
       .have b:d.2.1∈av w:=by rw[td e f]at c;exact ng c
        obtain⟨g,i⟩:=dB b;rw[af (fun b=>b.elim e f)];exact(h.agi true g i).aCo
    unfold axr at a ⊢;by_cases k:(aiV w d).2=0
    .rw[ag k]at a ⊢;cases n:fa (aiV w d).1 with
     |false=>rw[n,af (by decide)]at a;exact absurd (show(4:Int)=0 from a) (by decide)
     |true=>rw[ag rfl];exact o.2 n
    .rw[af k]at a;exact absurd a k
 .exact h
def azX:∀{list:List de} {w:ah},aF w->aF (Yq w list)
 |[],_,h=>h|d::list,w,h=>azX (list:=list) (agj h d)
def aFJ {w:ah}(h:aF w){list:List de}(t:list.length<=500)(p:∀d∈list,fU d.2.2.2):∃a:List Int,a.length=list.length/\LO F0 w list=some (Yq w list,a,()):=by
 rw[asE,lI h.w,ai,gJ h.w.l,ai,h.ok,aN,aa,aQ (show ¬(list.length:Int)>500 by omega),aa];have key:∀(b k:Nat) (z:ah) (f:List Int) (n:Nat),k+b=list.length->aF z->f.length=k->b<n->∃a:List Int,a.length=list.length /\
   Bk F0 (LN F0) n (ry list (list.length:Int) (k:Int) 0 0 z.1.1 z.1.2 z.2.1 z.2.2.1 z.2.2.2.1 z.2.2.2.2 f [] [] [] [])=some (Yq z (list.drop k),a,()):=by
  intro b
  induction b with
  |zero =>
   intro k z f n q g j r;obtain⟨n,rfl⟩:∃m,n=m+1:=⟨n-1,by omega⟩;obtain rfl:k=list.length:=by omega
   rw[Oi,aE,aa,aic,Vk];exact⟨f,j,rfl⟩
  |succ b l =>
   intro k z f n q g j r;obtain⟨n,rfl⟩:∃m,n=m+1:=⟨n-1,by omega⟩;have c:k<list.length:=by omega
   have s:=aCq g (p _ (bH c));rw[Oi,aM c,ae,an c,ab,aT c,show(((z.1.1,z.1.2),z.2.1,z.2.2.1,z.2.2.2.1,z.2.2.2.2):ah)=z from rfl,s,ai,ar (by omega) (by omega) (by first|omega|(simp only[aK,aW,bj];omega)|(rw[bc,bz];omega)),ab,ab,al (by omega),Vh c];have o:=agj g list[k];show ∃a:List Int,_/\_=some (Yq (US z list[k]) (list.drop (k+1)),a,());by_cases i:(doI z list[k]).2=0
   .have e:US z list[k]=(doI z list[k]).1:=ag i;rw[e]at o ⊢;rw[bf.2 i,ae];exact l (k+1) _ _ n (by omega) o (by rw[aK,cS];omega) (by omega)
   .have e:US z list[k]=z:=af i;rw[e];rw[bT.2 i,aa];exact l (k+1) _ _ n (by omega) g (by rw[aK,cS];omega) (by omega)
 exact key list.length 0 w [] F0.n (by omega) h rfl (by rw[bB];omega)
def aFK {w:ah}(h:aF w){list:List de}(b:list.length<=500)(c:∀d∈list,fU d.2.2.2):∃a,LO F0 w list=some (Yq w list,a,()):=by obtain⟨a,_,h⟩:=aFJ h b c;exact⟨a,h⟩
def agk (w:ah)(x:ah×Int):ah×Int×ah:=if x.2=0 then (x.1,0,E0) else (E0,x.2,w)
def x3 (w x:ah):agk w (x,0)=(x,0,E0):=ag rfl
def F6 (w y:ah){k:Int}(h:k≠0):agk w (y,k)=(E0,k,w):=af h
def aKs (w:ah)(a:Int):ah×Int:=(dX w a (Ym w.1 (bP w a)).1,(Ym w.1 (bP w a)).2)
def aCr {w:ah}(h:aF w){a:Int}(c:0<=a)(e:a<w.2.2.1.length):Ng F0 w a=some (agk w (aKs w a)):=by
 obtain⟨b,l⟩:=h.rep c e;rw[aoP,iW c (by omega),ab,JA c e,aD7 b,ai,ab,dV b.bt,ai];unfold aKs Ym;cases g:(ask w.1 (bP w a)).2 with
 |false=>rfl
 |true =>
  obtain⟨_,f,_,_⟩:=aHr g;obtain⟨i,j⟩:=JS f;have k:Ag F0 w.1 ((bP w a).1,(bP w a).2.1,(bP w a).2.1,(bP w a).2.2.2) (1,0,(ask w.1 (bP w a)).1,(0,ak,[]),(0,ak,[]),0,0,0,0,0)=some ((aiS w.1 (bP w a)).1,(aiS w.1 (bP w a)).2,()):=azF b.F5 (ac8 i j);dsimp only;rw[k,ai,abB (aCj b) f,ai,aN,aa,ag rfl];cases (aiS w.1 (bP w a)).2 with
  |false=>rw[af (fun d=>by cases d.1)];rfl
  |true =>
   cases (e9 w.1 (aiS w.1 (bP w a)).1 (ask w.1 (bP w a)).1).2 with
   |false=>rw[af (fun d=>by cases d.2)];rfl
   |true =>
    rw[ag ⟨rfl,rfl⟩,aN,aa,aa,ab];rfl
def aHC (w:ah)(a:Int):ah×Int:=(dX w a (auk w.1 (bP w a)).1,(auk w.1 (bP w a)).2)
def azY {w:ah}(h:aF w){a:Int}(b:0<=a)(e:a<w.2.2.1.length):IL F0 w a=some (agk w (aHC w a)):=by
 obtain⟨c,o⟩:=h.rep b e;have f:=c.f.l.t;rw[alD,iW b (by omega),ab,JA b e,aI (by omega) (by omega)];unfold aHC auk;generalize p:bP w a=r at c f;have key:∀(k n:Nat),k<=r.2.2.2.2.2.1.length->k<n ->
   Al F0 (sn F0) n (sk a ((k:Int)-1) w.1.1 w.1.2 w.1.1 w.1.2 0 0 r.1 r.2.1 r.2.2.1 r.2.2.2.1.1 r.2.2.2.1.2.1 r.2.2.2.1.2.2.1.1 r.2.2.2.1.2.2.1.2.1 r.2.2.2.1.2.2.1.2.2 r.2.2.2.1.2.2.2 r.2.2.2.2.1 r.2.2.2.2.2.1 r.2.2.2.2.2.2.1.1 r.2.2.2.2.2.2.1.2 r.2.2.2.2.2.2.2 w.2.1 w.2.2.1 w.2.2.2.1 w.2.2.2.2 [] [] [] [])
    = some (agk w (dX w a (tK w.1 r k).1,(tK w.1 r k).2)):=by
  intro k
  induction k with
  |zero =>
   intro n g i;obtain⟨n,rfl⟩:∃m,n=m+1:=⟨n-1,by omega⟩;rw[Hq,aQ (show ¬((0:Nat):Int)-1>=0 by omega),aa,ack];rfl
  |succ k j =>
   intro n g i;obtain⟨n,rfl⟩:∃m,n=m+1:=⟨n-1,by omega⟩;have d:k<r.2.2.2.2.2.1.length:=by omega
   have l:=aFB c (r.2.2.2.2.2.1[k]).1 (c.l.tq _ (bH d)).1 true;rw[Hq,show((k+1:Nat):Int)-1=(k:Int) by omega,aL (show(k:Int)>=0 by omega),ae,an d,ab,ab,ab,aT d,Nl,iW b (by omega)];unfold tK;rw[aJ d,show((r.2.2.2.2.2.1[k]).2.1.toList==ak.toList)=dj (r.2.2.2.2.2.1[k]).2.1 from rfl];cases q:dj (r.2.2.2.2.2.1[k]).2.1 with
   |true =>
    rw[ag rfl,ae,aI (by omega) (by omega)];exact j n (by omega) (by omega)
   |false =>
    rw[af (by decide),aa];refine B9 (oh (fun x=>Option.bind x _) l) ?_;rw[ai];cases (fI w.1 r (r.2.2.2.2.2.1[k]).1 (r.2.2.2.2.2.1[k]).2.1 true).2 with
    |false=>rfl
    |true =>
     rw[ag rfl,ag rfl];dsimp only;rw[aN,aa,ab,Nl];rfl
 exact key r.2.2.2.2.2.1.length F0.n (bG _) (by rw[bB];omega)
def aHD {w:ah}{a:Int}(r:aw)(list:List jB):lN (dX w a r) a list=dX (lN w a list) a r:=by
 have e:av (dX w a r)=av w:=by unfold av dX;dsimp only;rw[ni]
 unfold lN;rw[e];split<;>rfl
def azZ (w:ah)(a:Int):ah×Int:=if w.2.2.2.1.length+(a1 w a).length<=60/\w.2.2.2.2.length+(a1 w a).length<=300 then (uq (gz w a) (a1 w a),0) else (w,4)
def az0 {w:ah}(h:aF w){a:Int}(b:0<=a)(d:a<w.2.2.1.length):IK F0 w a=some (agk w (azZ w a)):=by
 obtain⟨c,k⟩:=h.rep b d;have q:(a1 w a).length<=30:=c.f.n;have f:∀p∈a1 w a,fU p.2:=c.aJY;have r:=h.nl;have s:=h.sl;have l:=azD c;have g:=h.dX b c.HZ k;have m:KY F0 (w.1,w.2.1,w.2.2.1.set a.toNat (HZ (bP w a)),w.2.2.2) a (a1 w a)=some (gz w a,()):=by have:=aFG g.w g.sl a (list:=a1 w a) (by omega) f;rw[aHD]at this;exact this
 have o:=h.gz b d;rw[alB,iW b (by omega),ab,JA b d,l,ai];dsimp only;rw[show(bP w a).2.2.2.2.2.2.2=a1 w a from rfl,aI (n:=(w.2.2.2.1.length:Int)+(a1 w a).length) (by omega) (by omega),aI (n:=(w.2.2.2.2.length:Int)+(a1 w a).length) (by omega) (by omega),ab,m,ai,akq o.nl (by omega) f,ai];unfold azZ;by_cases i:w.2.2.2.1.length+(a1 w a).length<=60
 .rw[aQ (show ¬(w.2.2.2.1.length:Int)+(a1 w a).length>60 by omega),aa];by_cases j:w.2.2.2.2.length+(a1 w a).length<=300
  .rw[aQ (show ¬(w.2.2.2.2.length:Int)+(a1 w a).length>300 by omega),aa,ag ⟨i,j⟩,x3];rfl
  .rw[aL (show(w.2.2.2.2.length:Int)+(a1 w a).length>300 by omega),ae,af (fun e=>j e.2),F6 _ _ (by decide)];rfl
 .rw[aL (show(w.2.2.2.1.length:Int)+(a1 w a).length>60 by omega),ae,af (fun e=>i e.1),F6 _ _ (by decide)];rfl
def aHE (w:ah)(d:de):ah×Int :=
 if gp 0 (aj ((w.2.2.2.1.length:Int)-1)) d.2.1=true then
  if d.1=5 then (if w.2.2.2.1.length<60 then (Yp w (w.2.2.2.1++[cV w d.2.1]),0) else (w,4))
  else if d.1=3/\(cV w d.2.1).1 ∉ w.2.1 then (dX (OL w d.2.1) (cV w d.2.1).1 (aiT false w (cV w d.2.1)),0) else (OL w d.2.1,0)
 else (w,2)
def aJj {imp:Bool}{c:Int×Int}{r:aw}{m:b0}(h:(GU imp c r m).2=false):(GU imp c r m).1=r:=by
 unfold GU at h ⊢;split
 .rename_i a;rw[ag a]at h;cases h
 .rfl
def aHF {w:ah}{a:Int}(b:0<=a)(c:a<w.2.2.1.length):w.2.2.1.set a.toNat (bP w a)=w.2.2.1:=by unfold bP;rw[aJ (show a.toNat<w.2.2.1.length by omega)];exact aAA _
def aJk {w:ah}{a:Int}(c:0<=a)(e:a<w.2.2.2.1.length)(d:gw):aH w.2.2.2.1 a d=cV w a:=by
 have b:a.toNat<w.2.2.2.1.length:=by omega
 unfold cV;rw[aJ b];exact aJ b d
def aCs {w:ah}(h:aF w)(d:de):w6 F0 w d=some (agk w (aHE w d)):=by
 have t:=h.nl;have u:=h.liars;have v:=h.le7;rw[aoF,cQ,ai];unfold aHE;cases l:gp 0 (aj ((w.2.2.2.1.length:Int)-1)) d.2.1 with
 |false=>rw[af (by decide),F6 _ _ (by decide)];rfl
 |true =>
  obtain⟨i,j⟩:=RC h l;have b:=h.aJi i j;obtain⟨m,x⟩:=aq4 b.2.1;obtain⟨t0,t1⟩:=h.aCn b.2.2;obtain⟨n,hid⟩:=h.rep t0 t1;have o:aj (d.2.1+1)=d.2.1+1:=aI (by omega) (by omega);have p:(d.2.1+1).toNat=d.2.1.toNat+1:=by omega
  have q:([]++w.2.2.2.1.take d.2.1.toNat)++(w.2.2.2.1.take (w.2.2.2.1.length:Int).toNat).drop (d.2.1+1).toNat=adj w.2.2.2.1 d.2.1.toNat:=by rw[gr,ki,p];rfl
  have y:(w.2.2.2.1.take d.2.1.toNat).length<=60:=by rw[bz];omega
  have z:((w.2.2.2.1.take (w.2.2.2.1.length:Int).toNat).drop (d.2.1+1).toNat).length<=60:=by rw[bc,bz];omega
  have r:okT d.2.1 (w.2.2.2.1.length:Int)=true:=by simp[okT];omega
  rw[ag rfl,aN,aa,iW i j,ab,aJk i j,ar (a:=0) (by omega) (by omega) (by have:=b.1.1;omega),ab,ar (by omega) (by omega) (by first|omega|(simp only[aK,aW,bj];omega)|(rw[bc,bz];omega)),ab,r,ab,o,aiA (by omega) (by omega) (by omega),ab,ar (a:=0) (by omega) (by omega) (by omega),ab,ar (by omega) (by omega) (by rw[BH];omega),ab,
   q,fC (by omega),ai,atZ b.1,ai,iW t0 t1,ab]
  dsimp only;rw[JA t0 t1,azL n m,ai,ab];by_cases c:d.1=5
  .rw[bf.2 c,ae,ag c];by_cases g:w.2.2.2.1.length<60
   .rw[aQ (show ¬(w.2.2.2.1.length:Int)>=60 by omega),aa,ag g,x3];rfl
   .rw[aL (show(w.2.2.2.1.length:Int)>=60 by omega),ae,af g,F6 _ _ (by decide)];rfl
  .rw[bT.2 c,aa,af c];by_cases e:d.1=3
   .rw[bf.2 e,ae];by_cases f:(cV w d.2.1).1∈w.2.1
    .rw[aL f,aN,aa,af (fun k=>k.2 f),x3];rfl
    .rw[aQ f,eh,ae,ag ⟨e,f⟩,x3];unfold aiT;cases s:(GU false w.1 (bP w (cV w d.2.1).1) (gy w.1 (cV w d.2.1).2).1).2 with
     |true=>rfl
     |false =>
      rw[aJj s];have:=aHF t0 t1;show some (((w.1,w.2.1,w.2.2.1,adj w.2.2.2.1 d.2.1.toNat,w.2.2.2.2):ah),(0:Int),_)=some ((w.1,w.2.1,w.2.2.1.set _ _,adj w.2.2.2.1 d.2.1.toNat,w.2.2.2.2),0,E0);rw[this];rfl
   .rw[bT.2 e,aa,af (fun k=>e k.1),x3];rfl
def aHG (w:ah)(d:de):ah×Int :=
 if gp 0 (aj (w.1.1-1)) d.2.1=true then (if GV w.1 w.2.1 w.2.2.2.2 d.2.2.2=true then (if w.2.2.2.1.length<60 then (uq w [(d.2.1,d.2.2.2)],0) else (w,4)) else (w,5)) else (w,2)
def aCt {w:ah}(h:aF w){d:de}(a:fU d.2.2.2):Nd F0 w d=some (agk w (aHG w d)):=by
 have b:=h.nl;have e:=h.liars;have f:=h.sl;rw[aoM,cQ,ai,aCf (by omega) (by omega) a,ai,akq b (by simp) (fun p c=>by rw[fm.1 c];exact a),ai];unfold aHG;cases gp 0 (aj (w.1.1-1)) d.2.1 with
 |false=>rfl
 |true =>
  cases GV w.1 w.2.1 w.2.2.2.2 d.2.2.2 with
  |false=>rfl
  |true =>
   by_cases g:w.2.2.2.1.length<60
   .rw[aQ (show ¬(w.2.2.2.1.length:Int)>=60 by omega),ag g];rfl
   .rw[aL (show(w.2.2.2.1.length:Int)>=60 by omega),af g];rfl
def aHH (w:ah)(d:de):ah×Int:=if d.1=2 then azZ w d.2.1 else agi false w d
def aup {w:ah}{x:ah×Int}:((some (agk w x):Option (ah×Int×ah)).bind fun r=>br (r.2.1==0) (some (r.1,(0:Int),E0)) (br (r.2.1==0) none (some (E0,r.2.1,w.1,r.2.2.2))))=some (agk w x):=by
 rw[ai];unfold agk;by_cases h:x.2=0
 .rw[ag h];rfl
 .rw[af h];dsimp only;rw[bT.2 h,aa,aa]
def aCu {w:ah}(h:aF w){d:de}(o:fU d.2.2.2)(a:0<=d.2.1)(c:d.2.1<w.2.2.1.length):Nq F0 w d=some (agk w (aHH w d)):=by
 obtain⟨b,t⟩:=h.rep a c;have p:Qx F0 w.1 ((bP w d.2.1).1,(bP w d.2.1).2.1,(bP w d.2.1).2.2.1,(bP w d.2.1).2.2.2.1,(bP w d.2.1).2.2.2.2.1,(bP w d.2.1).2.2.2.2.2.1,ej (bP w d.2.1).2.2.2.2.2.2.1 d.2.2.1,(bP w d.2.1).2.2.2.2.2.2.2)=some (ur w.1 (bP w d.2.1) d.2.2.1,()):=aHm (b.Yn d.2.2.1).bt (b.Yn d.2.2.1).ok;have e:=fun x:ah×Int=>aup (w:=w) (x:=x)
 unfold E0 at e;rw[aoX,iW a (by omega),ab,aCr h a c,az0 h a c,azY h a c,JA a c,dV b.bt,aB0 b.bt.d.1,aHs b,azL b o];have q:=e (aKs w d.2.1);have r:=e (azZ w d.2.1);have s:=e (aHC w d.2.1);unfold aHH agi adh;by_cases f:d.1=1
 .rw[bf.2 f,ae,af (by omega),ag f];exact q
 .rw[bT.2 f,aa,af f];by_cases g:d.1=2
  .rw[bf.2 g,ae,ag g];exact r
  .rw[bT.2 g,aa,af g];by_cases i:d.1=6
   .rw[bf.2 i,ae,ag i];exact s
   .rw[bT.2 i,aa,af i];by_cases j:d.1=8
    .rw[bf.2 j,ae,af (by omega),ag j,x3];simp only[ai,p,ab];rfl
    .rw[bT.2 j,aa];by_cases l:d.1=7
     .rw[bf.2 l,ae,ag l,ai];cases (B7 w.1 (bP w d.2.1)).2 with
      |false=>rw[af (by decide),F6 _ _ (k:=3) (show(3:Int)≠0 by decide)];rfl
      |true=>rw[ag rfl,x3,ab];rfl
     .rw[bT.2 l,aa,af l,af j,ai];unfold axo;cases (GU false w.1 (bP w d.2.1) d.2.2.2).2 with
      |false=>rw[af (fun n=>by cases n.1),F6 _ _ (k:=3) (show(3:Int)≠0 by decide)];rfl
      |true =>
       by_cases m:d.2.2.2.1=4
       .rw[ag ⟨rfl,m⟩,x3,aN,aa,show(d.2.2.2.1 != 4)=false by simp[m],aa,ab];rfl
       .rw[af (fun n=>m n.2),F6 _ _ (k:=3) (show(3:Int)≠0 by decide),aN,aa,show(d.2.2.2.1 != 4)=true by simp[m],ae];rfl
def aCv (w:ah)(d:de):ah×Int:=if H0 d=true then aHE w d else if d.1=10 then aHG w d else if d.2.1∈av w then aHH w d else (w,2)
def aCw {w:ah}(h:aF w){d:de}(g:fU d.2.2.2):Nr F0 w d=some (agk w (aCv w d)):=by
 have hlen:=x2 w;have p:=h.le7;have b:=fun x:ah×Int=>aup (w:=w) (x:=x)
 unfold E0 at b;have f:=b (aHE w d);have k:=b (aHG w d);have l:=b (aHH w d);rw[aoZ,aCs h,aCt h g,aqh h.w.l];unfold aCv;by_cases c:H0 d=true
 .rw[ag c];by_cases i:d.1=3
  .rw[bf.2 i,ae];exact f
  .rw[bT.2 i,aa];by_cases j:d.1=4
   .rw[bf.2 j,ae];exact f
   .have m:d.1=5:=by have:=eC.1 c;omega
    rw[bT.2 j,aa,bf.2 m,ae];exact f
 .have q:¬(d.1=3\/d.1=4\/d.1=5):=fun a=>c (eC.2 a)
  rw[af c,bT.2 (show d.1≠3 by omega),aa,bT.2 (show d.1≠4 by omega),aa,bT.2 (show d.1≠5 by omega),aa];by_cases e:d.1=10
  .rw[bf.2 e,ae,ag e];exact k
  .rw[bT.2 e,aa,af e,ai,fC (by dsimp only;omega),ai];by_cases a:d.2.1∈av w
   .obtain⟨n,o⟩:=dB a;rw[aL a,aN,aa,ag a,aCu h g n o];exact l
   .rw[aQ a,eh,ae,af a,F6 _ _ (by decide)];rfl
def az1 (w:ah)(d:de):ah:=if (aCv w d).2=0 then (aCv w d).1 else w
def az2 {w:ah}(h:aF w){d:de}(b:fU d.2.2.2):IM F0 w d=some ((az1 w d,()),()):=by
 rw[alH,aCw h b,ai];unfold az1 agk;by_cases a:(aCv w d).2=0
 .rw[ag a,ag a];rfl
 .rw[af a,af a];dsimp only;rw[bT.2 a,aa,show((aCv w d).2 != 0)=true by simp[a],ae]
def aF.aLY {w:ah}(h:aF w)(d:de):aF (az1 w d):=by
 unfold az1;split
 .rename_i f;clear f;unfold aCv;split
  .unfold aHE;split
   .rename_i i;obtain⟨b,c⟩:=RC h i;have e:=h.aJi b c;split
    .split
     .rename_i g;refine h.Yp (by rw[aK,cS];omega) fun x a=>?_
      rcases gK.1 a with a|a
      .exact h.nb x a
      .rw[fm.1 a];exact e
     .exact h
    .split
     .obtain⟨t0,t1⟩:=h.aCn e.2.2;obtain⟨j,hid⟩:=h.rep t0 t1;exact(h.OL d.2.1).dX t0 (j.heard false _) (by unfold aiT;rw[axm];exact hid)
     .exact h.OL _
   .exact h
  .split
   .unfold aHG;split
    .split
     .split
      .exact h.send _
      .exact h
     .exact h
    .exact h
   .split
    .rename_i k;obtain⟨b,c⟩:=dB k;unfold aHH;split
     .unfold azZ;split
      .exact(h.gz b c).send _
      .exact h
     .exact h.agi false b c
    .exact h
 .exact h
def GX (i:Int):aw:=(i,1,0,kd,[],[],([],0),[])
def RD (c:Int×Int)(liars:List Int):ah:=(c,liars,(List.range c.1.toNat).map fun i:Nat=>GX (i:Int),[],[])
def aq5 {c:Int×Int}(a:bq c=true){i:Int}(e:0<=i)(f:i<c.1):aY c (GX i):=by have d:=b3 a;refine⟨⟨a,?_,rfl,rfl,adg a,rfl,rfl,rfl,aR _,fun x b=>by cases b⟩,fun x b=>by cases b⟩;show gp 0 (aj (c.1-1)) i=true;rw[XZ d.1 d.2.1];simp only[gp,aG,bV];omega
def aHI {c:Int×Int}(a:bq c=true){liars:List Int}(d:iH c.1 liars=true)(e:(liars.length:Int)<=tG c):aF (RD c liars):=by
 have m:=b3 a;refine⟨a,d,e,?_,fun r f=>?_,fun k g=>?_,aR _,(fun x b=>by cases b),aR _,(fun x b=>by cases b)⟩
 .show(((List.range c.1.toNat).map fun i:Nat=>GX (i:Int)).length:Int)=c.1;rw[nh,S0];omega
 .obtain⟨i,h,rfl⟩:=E2.1 f;have:=eU.1 h;exact aq5 a (by omega) (by omega)
 .have j:k<((List.range c.1.toNat).map fun i:Nat=>GX (i:Int)).length:=g;have l:(((List.range c.1.toNat).map fun i:Nat=>GX (i:Int))[k]'j).1=(k:Int):=by rw[List.getElem_map,List.getElem_range];rfl
  exact l
def aCx {c:Int×Int}(b:bq c=true){i:Int}(d:0<=i)(e:i<c.1):MF F0 c i=some (GX i,true,()):=by
 have a:=aq5 b d e;have f:dx F0 c (i,1,0,(0,0,(0,ak,[]),ak),[],[],([],0),[])=some (true,()):=by have:=hY a.l c;rw[a.ok]at this;exact this
 rw[an6,f];rfl
def az3 {c:Int×Int}(b:bq c=true){i:Int}(d:0<=i)(e:i<c.1):NB F0 c i=some (GX i,true,()):=by
 have a:=aq5 b d e;have f:cp F0 c (i,1,0,(0,0,(0,ak,[]),ak),[],[],([],0),[])=some (true,()):=by have:=dS a.l c;rw[a.ok]at this;exact this
 rw[ape,f];rfl
def SX {c:Int×Int}{liars:List Int}(h:aF (RD c liars)):lB F0 c liars=some (RD c liars,true,()):=by
 have b:=b3 h.c;have d:bq c=true:=h.c;have f:liars.length<=7:=h.liars;have g:(c.1.toNat:Int)=c.1:=JW (by have:4<=c.1:=b.1;omega);have j:c.1.toNat<=7:=by have:c.1<=7:=b.2.1;omega
 rw[agW,ar (a:=0) (by omega) (by omega) (by omega),ab];refine aBV (fun n k xs=>uL F0 (yK F0) n (pg k c.1 c.2 0 0 c.1 c.2 [] [] [] [] ([]++liars) xs [] [])) (List.range c.1.toNat) (fun i:Nat=>GX (i:Int)) _ (fun n k xs e l=>?_) (fun n=>?_) _ (by rw[bB,S0];omega)
 .have m:k<c.1.toNat:=by rw[S0]at e;exact e
  rw[Ff,aL (show(k:Int)<c.1 by omega),ae,show((c.1,c.2):Int×Int)=c from rfl,ix,ai,d,ae,aCx d (by omega) (by omega),ai,ar (by omega) (by omega) (by first|omega|(simp only[aK,aW,bj];omega)|(rw[bc,bz];omega)),ab,al (by omega),List.getElem_range]
 .have df:yJ F0 ((c.1,c.2),[]++liars,((List.range c.1.toNat).map fun i:Nat=>GX (i:Int),([],[])))=some (true,()):=by have:=ay6 h.w.l;rw[h.ok]at this;exact this
  rw[Ff,S0,aQ (show ¬(c.1.toNat:Int)<c.1 by omega),aa,Zi,df];rfl
def as2 {c:Int×Int}{liars:List Int}(h:aF (RD c liars)):tZ F0 c liars=some (RD c liars,true,()):=by
 have b:=b3 h.c;have a:bq c=true:=h.c;have e:liars.length<=7:=h.liars;have f:(c.1.toNat:Int)=c.1:=JW (by have:4<=c.1:=b.1;omega);have g:c.1.toNat<=7:=by have:c.1<=7:=b.2.1;omega
 rw[ahE,oa (by omega),ai];refine aBV (fun n k xs=>vD F0 (AL F0) n (pI k c.1 c.2 0 0 c.1 c.2 [] [] [] [] liars xs [] [])) (List.range c.1.toNat) (fun i:Nat=>GX (i:Int)) _ (fun n k xs d j=>?_) (fun n=>?_) _ (by rw[bB,S0];omega)
 .have l:k<c.1.toNat:=by rw[S0]at d;exact d
  rw[FD,show((c.1,c.2):Int×Int)=c from rfl,fS,ai,a,ae,aL (show(k:Int)<c.1 by omega),ae,az3 a (by omega) (by omega),ai,ar (by omega) (by omega) (by first|omega|(simp only[aK,aW,bj];omega)|(rw[bc,bz];omega)),ab,al (by omega),List.getElem_range]
 .have df:b6 F0 ((c.1,c.2),liars,((List.range c.1.toNat).map fun i:Nat=>GX (i:Int),([],[])))=some (true,()):=by have:=gJ h.w.l;rw[h.ok]at this;exact this
  rw[FD,show((c.1,c.2):Int×Int)=c from rfl,fS,ai,a,ae,S0,aQ (show ¬(c.1.toNat:Int)<c.1 by omega),aa,Zu,df];rfl
def New (w:ah):Prop:=∃c liars,w=RD c liars/\aF (RD c liars)
def New.g {w:ah}(h:New w):aF w:=by obtain⟨c,l,rfl,a⟩:=h;exact a
def aLZ (n:Int):iH n []=true:=rfl
def aL0 {n x:Int}(a:0<=x)(b:x<n):iH n [x]=true:=by simp[iH,a,b]
def aCy {c:Int×Int}(h:bq c=true):1<=tG c:=by have a:=b3 h;unfold tG;rw[ag h];exact(ayL a.1 a.2.1).1
def aHJ {c:x5}(h:SH c):Dr (U:=ah) (ph F0 c) New:=by
 unfold Dr;rw[Wj];refine Dr.bind (acZ h (l:=[4,4,4,5,7]) (by decide) (by decide)) fun x g i=>Dr.bind (hz i (n:=3) (by omega) (by omega)) fun y d j=>Dr.bind (amM j (n:=3) (by omega) (by omega)) fun z o e=>?_
 have p:x.1.1=4\/x.1.1=5\/x.1.1=7:=by simp only[cT,abD,or_false]at g;omega
 have q:=d.1;have r:=d.2;have b:bq (x.1.1,aj (1+y.1.1))=true:=by rw[aI (by omega) (by omega)];simp only[bq,gp,aG,bV];omega
 have k:=aCy b;refine Gd.br (fun _=>?_) fun _=>?_
 .refine Dr.bind (hz e (n:=x.1.1) (by omega) (by omega)) fun v f m=>?_
  have a:aF (RD (x.1.1,aj (1+y.1.1)) [v.1.1]):=aHI b (aL0 f.1 f.2) (by simpa using k);exact Gd.let (SX a) (Gd.ret ⟨⟨_,_,rfl,a⟩,m⟩)
 .have a:aF (RD (x.1.1,aj (1+y.1.1)) []):=aHI b (aLZ _) (by simp;omega);exact Gd.let (SX a) (Gd.ret ⟨⟨_,_,rfl,a⟩,e⟩)
def aCz {a b:Int}{V:Type}{f:Int×Unit->Option V}{P:V->Prop}(h:Gd (f (GS a b,())) P):Gd ((bK F0 a b).bind f) P:=Gd.let (Y2 a b) h
def aHK {a b:Int}{V:Type}{f:Int×Unit->Option V}{P:V->Prop}(h:Gd (f (tc a b,())) P):Gd ((dK F0 a b).bind f) P:=Gd.let (De a b) h
def auq {up:ByteArray}(d:up.size<=6000){view:Int}(a:I64 view){l:List dH}(e:l.length<=10){V:Type}{f:ByteArray×Unit->Option V}{P:V->Prop}(h:∀b:ByteArray,b.size<=7000->Gd (f (b,())) P):Gd ((kS F0 up view l).bind f) P:=by have c:=aqs (up:=up.data.toList) (by show up.size<=_;omega) a (l:=l) (by omega);have g:=at7 (up:=up.data.toList) a l;refine Gd.let c (h _ ?_);rw[bD];have:up.data.toList.length=up.size:=rfl;omega
def adl {w:ah}(h:aF w)(view:Int)(name:ByteArray)(d:name.size<=1048576){c:x5}(e:SH c) :
  Gd (cL F0 (eB F0) F0.n (cr view name 0 c.1 c.2.1 c.2.2 w.1.1 w.1.2 w.2.1 w.2.2.1 w.2.2.2.1 w.2.2.2.2 0 0 ak 0 ak 0 ak 0 ak 0 0 0 0 0 ([]++w.2.1) [] [] [])) fun z:DrT b0=>(∃q:bZ,z.1.1=BC q/\um q)/\SH z.2.1:=by
 have g:=h.sl;have j:=h.liars;refine amK (fun n i (z:List Int)=>cL F0 (eB F0) n (cr view name i c.1 c.2.1 c.2.2 w.1.1 w.1.2 w.2.1 w.2.2.1 w.2.2.2.1 w.2.2.2.2 0 0 ak 0 ak 0 ak 0 ak 0 0 0 0 0 z [] [] [])) w.2.2.2.2.length (fun k z=>z.length<=7+k) _ (fun n k z b f a=>?_) (fun n z f=>?_) F0.n 0 ([]++w.2.1) (aR _) (by show w.2.1.length<=_;omega) (by rw[bB];omega)
 .rw[tT,aM b,ae,an b,ab,ab,ab,al (by omega)];refine Gd.br (fun _=>Gd.br (fun _=>Gd.let (acO (by omega) _) ?_) fun _=>?_) fun _=>?_
  .exact a _ (by have:=ap2 z (aH w.2.2.2.2 (k:Int) L7).2.2;exact bX (ap2 _ _) (by omega))
  .exact a _ (by omega)
  .exact a _ (by omega)
 .rw[tT,aE,aa,P5];exact Gd.ret ⟨⟨(view,name,z),rfl,d,by show z.length<=_;omega⟩,e⟩
def aHL {c:x5}(k:SH c){w:ah}(h:aF w):Dr (U:=b0) (pw F0 c w) fun m=>∃q:bZ,m=BC q/\um q:=by
 have t:=h.sl;have u:=h.liars;unfold Dr;rw[Wv];refine Dr.bind (hz k (n:=4) (by omega) (by omega)) fun x e f=>?_
 have v:=e.1;have A:=e.2;refine auq (aR _) (by rw[aI (by omega) (by omega)];exact⟨by omega,by omega⟩) (aR _) fun b l=>?_
 refine Gd.ck (ar (a:=0) (by omega) (by omega) (by omega)) (Gd.br (fun hlen=>?_) fun _=>adl h _ _ (by show b.size<=_;omega) f);have B:0<w.2.2.2.2.length:=by have:=ng hlen;omega
 refine aCz ?_;have m0:0<GS (w.2.2.2.2.length:Int) 8:=by unfold GS;split<;>omega
 have m1:GS (w.2.2.2.2.length:Int) 8<=w.2.2.2.2.length:=by unfold GS;split<;>omega
 refine Dr.bind (hz f (n:=GS (w.2.2.2.2.length:Int) 8) m0 (by omega)) fun y g o=>?_
 have C:=g.1;have D:=g.2;have p:aj (aj ((w.2.2.2.2.length:Int)-1)-y.1.1)=((w.2.2.2.2.length-1-y.1.1.toNat:Nat):Int):=by rw[aI (n:=(w.2.2.2.2.length:Int)-1) (by omega) (by omega),aI (by omega) (by omega)];omega
 have d:w.2.2.2.2.length-1-y.1.1.toNat<w.2.2.2.2.length:=by omega
 have i:=h.sb _ (bH d);have r:=o7 i.2.1;have E:=mX (w.2.2.2.2[w.2.2.2.2.length-1-y.1.1.toNat]).2.1.data.toList;have s:=i.2.2;rw[p];refine Gd.ck (an d) (Dr.bind (amM o (n:=3) (by omega) (by omega)) fun z F j=>?_);rw[aT d];refine Gd.br (fun _=>Gd.let (afG (bX r (by omega))) ?_) fun _=>adl h _ _ (by omega) j
 refine auq (up:=upB (w.2.2.2.2[w.2.2.2.2.length-1-y.1.1.toNat]).2.1) (bX (Md _) (by omega)) (by rw[<-s];exact⟨by omega,by omega⟩) (by simp) fun b l=>adl h _ _ (by show b.size<=_;omega) j
def aq6 {c:Int×Int}{q:bZ}{view:Int}{l:List dH}:(iK c q view l).1.1.size<=1048576/\um (iK c q view l).1.2:=by
 unfold iK;split
 .rename_i a;exact JS a.1
 .exact⟨aR _,fH⟩
def aHM {w:ah}(h:aF w){q:bZ}(b:eV w.1 q=true)(cw:Int){view:Int}(d:0<=view)(e:view<=61){c:x5}(f:SH c) :
  Gd (bL F0 (bo F0) F0.n (bn cw view 0 c.1 c.2.1 c.2.2 w.1.1 w.1.2 w.2.1 w.2.2.1 w.2.2.2.1 w.2.2.2.2 0 0 ak 0 ak 0 ak 0 ak 0 0 0 0 0 q.1 q.2.1 [] [] [] q.2.2)) fun z:DrT b0=>fU z.1.1/\SH z.2.1:=by
 have out:∀v:Int,0<=v->v<=61->Gd (bo F0 (.exit 1) (gU v c.1 c.2.1 c.2.2 w.1.1 w.1.2 w.2.1 w.2.2.1 w.2.2.2.1 w.2.2.2.2 0 0 ak 0 ak 0 ak 0 ak 0 0 0 0 0 q.1 q.2.1 [] [] [] q.2.2)) fun z:DrT b0=>fU z.1.1/\SH z.2.1:=fun v o p=>by
  rw[U1];refine Dr.bind (at6 f) fun x r g=>?_
  have i:=af9 (c:=w.1) b (view:=v) ⟨by omega,by omega⟩ (l:=[x.1.1]) (by simp);exact Gd.let i (Gd.ret ⟨ac8 aq6.1 aq6.2,g⟩)
 refine amK (fun n k (v:Int)=>bL F0 (bo F0) n (bn cw v k c.1 c.2.1 c.2.2 w.1.1 w.1.2 w.2.1 w.2.2.1 w.2.2.2.1 w.2.2.2.2 0 0 ak 0 ak 0 ak 0 ak 0 0 0 0 0 q.1 q.2.1 [] [] [] q.2.2)) 7 (fun k v=>0<=v/\v<=61) _ (fun n k v s a j=>?_) (fun n v a=>?_) F0.n 0 view (aR _) ⟨d,e⟩ (by rw[bB];omega)
 .have i0:=a.1;have i1:=a.2;rw[y1,aL (show(k:Int)<7 by omega),ae];refine Gd.br (fun m=>Gd.let (L0 _ _) (Gd.br (fun _=>?_) fun _=>out v i0 i1)) fun _=>out v i0 i1
  have t:=ng m;rw[aI (n:=v+1) (by omega) (by omega),al (by omega)];exact j (v+1) ⟨by omega,by omega⟩
 .rw[y1,aQ (show ¬((7:Nat):Int)<7 by omega),aa];exact out v a.1 a.2
def az4 {w:ah}(h:aF w){q:bZ}(b:eV w.1 q=true)(cw:Int){m:b0}(g:fU m){c:x5}(i:SH c) :
  Gd ((ax F0 c 4).bind fun a=>br (a.1.1==0) (some ((m,()),a.2.1,())) (br (a.1.1==1) ((ax F0 a.2.1 2).bind fun f=>(bK F0 (aj ((aj (q.1+1))+f.1.1)) 60).bind fun j=>some (((3,j.1,(ak,0,ak,[]),(0,ak,[]),q,cw,0,0,0,0),()),f.2.1,())) (bL F0 (bo F0) F0.n (bn cw (aj (q.1+1)) 0 a.2.1.1 a.2.1.2.1 a.2.1.2.2 w.1.1 w.1.2 w.2.1 w.2.2.1 w.2.2.2.1 w.2.2.2.2 0 0 ak 0 ak 0 ak 0 ak 0 0 0 0 0 q.1 q.2.1 [] [] [] q.2.2)))) fun z:DrT b0=>fU z.1.1/\SH z.2.1:=by
 obtain⟨_,_,l,_⟩:=j9 b;have o:=mX q.2.1.data.toList;have e:aj (q.1+1)=q.1+1:=aI (by omega) (by omega);refine Dr.bind (hz i (n:=4) (by omega) (by omega)) fun x p d=>Gd.br (fun _=>Gd.ret ⟨g,d⟩) fun _=>Gd.br (fun _=>?_) fun _=>?_
 .exact Dr.bind (hz d (n:=2) (by omega) (by omega)) fun y r k=>aCz (Gd.ret ⟨Rx (Pn b) cw,k⟩)
 .rw[e];exact aHM h b cw (by omega) (by omega) d
def az5 {c:Int×Int}(a:bq c=true):eV c cc=true:=by unfold eV ZK;simp only[a];rfl
def az6:Ix F0=some (cc,()):=by rw[ala];rfl
def aKt {c:x5}(v:SH c){w:ah}(h:aF w):Dr (U:=b0) (ig F0 c w) fU:=by
 have D:=h.le7;have E:=h.liars;unfold Dr;rw[ab9];refine Dr.bind (aHL v h) fun x A f=>?_
 obtain⟨q,e,o⟩:=A;obtain⟨⟨m,u⟩,⟨F,G⟩⟩:=x;dsimp only at e f ⊢;subst e;have p:=aiN o;have cw:∀(Q:bZ),eV w.1 Q=true->∀g:x5,SH g->Gd (br (decide ((w.2.1.length:Int)>0)) ((ax F0 g (w.2.1.length:Int)).bind fun i=>ck (bE i.1.1 (w.2.1.length:Int)) ((ax F0 i.2.1 4).bind fun a=>br (a.1.1==0) (some ((BC q,()),a.2.1,())) (br (a.1.1==1) ((ax F0 a.2.1 2).bind fun d=>(bK F0 (aj ((aj (Q.1+1))+d.1.1)) 60).bind fun k=>some (((3,k.1,(ak,0,ak,[]),(0,ak,[]),Q,aH w.2.1 i.1.1 0,0,0,0,0),()),d.2.1,())) (bL F0 (bo F0) F0.n (bn (aH w.2.1 i.1.1 0) (aj (Q.1+1)) 0 a.2.1.1 a.2.1.2.1 a.2.1.2.2 w.1.1 w.1.2 w.2.1 w.2.2.1 w.2.2.2.1 w.2.2.2.2 0 0 ak 0 ak 0 ak 0 ak 0 0 0 0 0 Q.1 Q.2.1 [] [] [] Q.2.2))))) ((ax F0 g 4).bind fun a=>br (a.1.1==0) (some ((BC q,()),a.2.1,())) (br (a.1.1==1) ((ax F0 a.2.1 2).bind fun d=>(bK F0 (aj ((aj (Q.1+1))+d.1.1)) 60).bind fun k=>some (((3,k.1,(ak,0,ak,[]),(0,ak,[]),Q,0,0,0,0,0),()),d.2.1,())) (bL F0 (bo F0) F0.n (bn 0 (aj (Q.1+1)) 0 a.2.1.1 a.2.1.2.1 a.2.1.2.2 w.1.1 w.1.2 w.2.1 w.2.2.1 w.2.2.2.1 w.2.2.2.2 0 0 ak 0 ak 0 ak 0 ak 0 0 0 0 0 Q.1 Q.2.1 [] [] [] Q.2.2))))) fun z:DrT b0=>fU z.1.1/\SH z.2.1:=fun Q r g s=>by
  refine Gd.br (fun B=>?_) fun _=>az4 h r 0 p s
  have:=ng B;refine Dr.bind (hz s (n:=(w.2.1.length:Int)) (by omega) (by omega)) fun y l j=>Gd.ck (iW l.1 l.2) (az4 h r _ p j)
 refine Gd.let (SB (q:=q) o w.1) (Gd.br (fun _=>Gd.let az6 (Gd.br (fun _=>?_) fun _=>cw cc (az5 h.c) _ f)) fun df=>cw q (by simpa using df) _ f);refine Dr.bind (amM f (n:=2) (by omega) (by omega)) fun y l j=>Gd.br (fun _=>?_) fun _=>cw cc (az5 h.c) _ j
 refine Dr.bind (hz j (n:=(w.2.2.1.length:Int)) (by omega) (by omega)) fun z b C=>Gd.ck (iW b.1 b.2) ?_
 have t:=(h.rep b.1 b.2).1;rw[JA b.1 b.2];exact Gd.let (wL t.l.s.1.2) (cw _ (cM t.f.s).2.2.1 _ C)
def OM:b0:=(0,0,(ak,cc),cc,cc,0,nd)
def BD:fU OM:=⟨aR _,fH,fH,fH⟩
def aks (d:de):Prop:=fU d.2.2.2
def aiW {w:ah}(h:aF w)(a:Int){c:x5}(b:SH c) :
  Gd (br ((w.2.2.2.1.length:Int)==0) (some (((2,a,0,0,0,(ak,0,ak,[]),(0,ak,[]),(0,ak,[]),0,0,0,0,0),()),c,())) ((bK F0 (w.2.2.2.1.length:Int) 4).bind fun e=>(ax F0 c e.1).bind fun d=>some (((3,d.1.1,0,0,0,(ak,0,ak,[]),(0,ak,[]),(0,ak,[]),0,0,0,0,0),()),d.2.1,()))) fun z:DrT de=>aks z.1.1/\SH z.2.1:=by
 refine Gd.br (fun _=>Gd.ret ⟨BD,b⟩) fun f=>aCz ?_
 have i:(w.2.2.2.1.length:Int)≠0:=by simpa using f
 have m0:0<GS (w.2.2.2.1.length:Int) 4:=by unfold GS;split<;>omega
 have m1:GS (w.2.2.2.1.length:Int) 4<=4:=by unfold GS;split<;>omega
 exact Dr.bind (hz b (n:=GS (w.2.2.2.1.length:Int) 4) m0 (by omega)) fun y j g=>Gd.ret ⟨BD,g⟩
def aHN {a:Int}{n k:Nat}(b:0<=a)(c:a<n)(d:k<n)(e:n<=7):0<=Int.tmod (aj (a+(k:Int))) (n:Int)/\Int.tmod (aj (a+(k:Int))) (n:Int)<n:=by rw[aI (by omega) (by omega),amV (by omega)];exact⟨Vn _ (by omega),amY _ (by omega)⟩
def nz0 {n:Nat}(h:0<n):(!((n:Int)==0))=true:=by simp;omega
def aq7 {w:ah}(h:aF w){a:Int}(i:0<=a)(j:a<w.2.2.1.length){c:x5}(d:SH c) :
  Gd (dN F0 (dO F0) F0.n (c7 (w.2.2.1.length:Int) a 0 c.1 c.2.1 c.2.2 w.1.1 w.1.2 w.2.1 w.2.2.1 w.2.2.2.1 w.2.2.2.2 0 0 0 0 0 ak 0 ak 0 ak 0 ak 0 0 0 0 0 [] [] [])) fun z:DrT de=>aks z.1.1/\SH z.2.1:=by
 have l:=h.le7;have p:=h.liars;refine amK (fun n k (z:Unit)=>dN F0 (dO F0) n (c7 (w.2.2.1.length:Int) a k c.1 c.2.1 c.2.2 w.1.1 w.1.2 w.2.1 w.2.2.1 w.2.2.2.1 w.2.2.2.2 0 0 0 0 0 ak 0 ak 0 ak 0 ak 0 0 0 0 0 [] [] [])) w.2.2.1.length (fun _ _=>True) _ (fun n k z e m f=>?_) (fun n z m=>?_) F0.n 0 () (aR _) trivial (by rw[bB];omega)
 .obtain⟨b,g⟩:=aHN i j e l.2;have o:=(h.rep b g).1;rw[w5,aM e,ae,nz0 (by omega),ab,iW b (by omega),ab,JA b g,ab,ab,U3,al (by omega)];refine Gd.let (aD7 o) (Gd.br (fun _=>?_) fun _=>f () trivial);refine Gd.let (fC (by omega) _) (Gd.br (fun _=>?_) fun _=>f () trivial);exact Gd.ret ⟨BD,d⟩
 .rw[w5,aE,aa,R5];exact Gd.ret ⟨BD,d⟩
def Za {w:ah}(h:aF w){a:Int}(e:0<=a)(f:a<w.2.2.1.length){c:x5}(b:SH c) :
  Gd (dM F0 (cZ F0) F0.n (cY (w.2.2.1.length:Int) a 0 c.1 c.2.1 c.2.2 w.1.1 w.1.2 w.2.1 w.2.2.1 w.2.2.2.1 w.2.2.2.2 0 0 0 0 0 ak 0 ak 0 ak 0 ak 0 0 0 0 0 [] [] [])) fun z:DrT de=>aks z.1.1/\SH z.2.1:=by
 have g:=h.le7;refine amK (fun n k (z:Unit)=>dM F0 (cZ F0) n (cY (w.2.2.1.length:Int) a k c.1 c.2.1 c.2.2 w.1.1 w.1.2 w.2.1 w.2.2.1 w.2.2.2.1 w.2.2.2.2 0 0 0 0 0 ak 0 ak 0 ak 0 ak 0 0 0 0 0 [] [] [])) w.2.2.1.length (fun _ _=>True) _ (fun n k z d i j=>?_) (fun n z i=>?_) F0.n 0 () (aR _) trivial (by rw[bB];omega)
 .obtain⟨l,m⟩:=aHN e f d g.2;rw[w4,aM d,ae,nz0 (by omega),ab,iW l (by omega),ab,ab,U2,al (by omega)];refine Gd.br (fun _=>?_) fun _=>j () trivial
  exact Gd.ret ⟨BD,b⟩
 .rw[w4,aE,aa,R4];exact aiW h a b
def aq8 {w:ah}(h:aF w)(a:Int){c:x5}(b:SH c) :
  Gd (br (decide ((w.2.1.length:Int)>0)) ((ig F0 c w).bind fun d=>some (((10,a,0,d.1.1),()),d.2.1,())) (br ((w.2.2.2.1.length:Int)==0) (some (((2,a,0,0,0,(ak,0,ak,[]),(0,ak,[]),(0,ak,[]),0,0,0,0,0),()),c,())) ((bK F0 (w.2.2.2.1.length:Int) 4).bind fun f=>(ax F0 c f.1).bind fun e=>some (((3,e.1.1,0,0,0,(ak,0,ak,[]),(0,ak,[]),(0,ak,[]),0,0,0,0,0),()),e.2.1,())))) fun z:DrT de=>aks z.1.1/\SH z.2.1 :=
 Gd.br (fun _=>Dr.bind (aKt b h) fun x g i=>Gd.ret ⟨g,i⟩) fun _=>aiW h a b
def aJl {c:x5}(i:SH c){w:ah}(h:aF w):Dr (U:=de) (r3 F0 c w) aks:=by
 have p:=h.le7;have q:=h.nl;unfold Dr;rw[Zo];refine aHK ?_;have m:tc (w.2.2.1.length:Int) 1=w.2.2.1.length:=by unfold tc;rw[af (by omega)]
 dsimp only;rw[m];refine Dr.bind (hz i (n:=(w.2.2.1.length:Int)) (by omega) (by omega)) fun x j k=>?_
 obtain⟨b,d⟩:=j;refine Dr.bind (hz k (n:=20) (by omega) (by omega)) fun y r a=>?_
 refine Gd.br (fun _=>aq7 h b d a) fun _=>Gd.br (fun _=>aq7 h b d a) fun _=>Gd.br (fun _=>aq7 h b d a) fun _=>Gd.br (fun _=>Za h b d a) fun _=>Gd.br (fun _=>Za h b d a) fun _=>Gd.br (fun _=>Za h b d a) fun _=>Gd.br (fun _=>Za h b d a) fun _=>Gd.br (fun _=>Gd.ret ⟨BD,a⟩) fun _=>Gd.br (fun _=>Gd.ret ⟨BD,a⟩) fun _=>Gd.br (fun _=>?_) fun _=>Gd.br (fun _=>?_) fun _=>Gd.br (fun _=>aq8 h _ a) fun _=>Gd.br (fun _=>aq8 h _ a) fun _=>Gd.br (fun _=>aq8 h _ a) fun _=>aiW h _ a
 .refine Dr.bind (amM a (n:=2) (by omega) (by omega)) fun z s f=>Gd.br (fun _=>?_) fun _=>?_
  .exact Dr.bind (acZ f (l:=[0,0,5,40,9999]) (by decide) (by decide)) fun v g e=>Gd.ret ⟨BD,e⟩
  .refine Dr.bind (hz f (n:=2) (by omega) (by omega)) fun v g e=>aHK ?_
   have m0:0<tc (w.2.2.2.1.length:Int) 1:=by unfold tc;split<;>omega
   have m1:tc (w.2.2.2.1.length:Int) 1<=60:=by unfold tc;split<;>omega
   exact Dr.bind (hz e (n:=tc (w.2.2.2.1.length:Int) 1) m0 (by omega)) fun u t o=>Gd.ret ⟨BD,o⟩
 .exact Dr.bind (at6 a) fun v g e=>Gd.ret ⟨⟨aR _,fH,fH,fH⟩,e⟩
def aHO {code:List Int}(h:code.length<=1048576):∃v:Int,MN F0 code 70 140=some (v,())/\70<=v/\v<=140:=by
 have a:Int.tdiv (code.length:Int) 4=(code.length:Int)/4:=amW (by omega);rw[aog,a,aI (n:=(code.length:Int)/4) (by omega) (by omega),aI (by omega) (by omega)];by_cases g:70+(code.length:Int)/4>140
 .rw[aL g];exact⟨140,rfl,by omega,by omega⟩
 .rw[aQ g];exact⟨70+(code.length:Int)/4,rfl,by omega,by omega⟩
def aFL {code:List Int}(h:code.length<=1048576):Gd (vp F0 code) fun z=>New z.1/\z.2.1.length<=140/\∀d∈z.2.1,aks d:=by
 rw[acm];refine Gd.bind (aKl h) fun B r=>Dr.bind (aHJ r) fun s i cs=>?_
 have j:=i.g;refine Gd.let (akj j.w) ?_;obtain⟨v,t,C,D⟩:=aHO h;refine Gd.let t (Dr.bind (hz cs (n:=v) (by omega) (by omega)) fun a f u=>?_);obtain⟨E,F⟩:=f;have key:∀(b k:Nat) (z:x5×(ah×List de)) (n:Nat),(k:Int)+b=a.1.1->SH z.1->aF z.2.1->z.2.2.length<=k->(∀d∈z.2.2,aks d)->b<n->k<=140 ->
   Gd (pF F0 (tz F0) n (lT a.1.1 (k:Int) 0 0 z.1.1 z.1.2.1 z.1.2.2 s.1.1.1.1 s.1.1.1.2 z.2.1.1.1 z.2.1.1.2 z.2.2 [] [] [] [] s.1.1.2.1 s.1.1.2.2.1 s.1.1.2.2.2.1 s.1.1.2.2.2.2 z.2.1.2.1 z.2.1.2.2.1 z.2.1.2.2.2.1 z.2.1.2.2.2.2)) fun z=>New z.1/\z.2.1.length<=140/\∀d∈z.2.1,aks d:=by
  intro b
  induction b with
  |zero =>
   intro k z n w l e o c f p;obtain⟨n,rfl⟩:∃m,n=m+1:=⟨n-1,by omega⟩;rw[Ao,aQ (show ¬(k:Int)<a.1.1 by omega),aa,U4];exact Gd.ret ⟨i,bX o p,c⟩
  |succ b y =>
   intro k z n w l e o c f p;obtain⟨n,rfl⟩:∃m,n=m+1:=⟨n-1,by omega⟩;rw[Ao,aL (show(k:Int)<a.1.1 by omega),ae];refine Dr.bind (aJl l e) fun d q A=>Gd.ck (ar (by omega) (by omega) (by simp only[aW,bj];omega)) (Gd.let (az2 e q) ?_)
   rw[al (by omega)];exact y (k+1) (d.2.1,az1 z.2.1 d.1.1,z.2.2++[d.1.1]) n (by omega) A (e.aLY _) (by rw[aK,cS];omega) (fun x g=>(gK.1 g).elim (c x) fun g=>by rw[fm.1 g];exact q) (by omega) (by omega)
 exact key a.1.1.toNat 0 (a.2.1,s.1.1,[]) F0.n (by omega) u j (bG _) (fun d c=>by cases c) (by rw[bB];omega) (by omega)
end Go.Am.Tryz
