/- No condition. -/
import Derived.Test.YtaheoongenkdbaaGreatDoorQsXJL4
set_option linter.all false
namespace Go.Am.Tryz
open Go.Am
def aEA (r:aA)(p:cE):Bool:= !dk p.2.1&& !decide (p.1<r.2.1)
def nq (c:Int×Int)(r:aA)(p:cE):aA×Bool :=
 if aEA r p=true/\(bo c r.2.2.2.2.2.1 p).2=true then ((gm c (fC r (bo c r.2.2.2.2.2.1 p).1) p.1 p.2.1 false).1,true) else (r,false)
def aT.aAh {c:Int×Int}{r:aA}(h:aT c r)(p:cE):aT c (nq c r p).1:=by
 unfold nq;split
 .exact(h.fC (nM h.f.t _)).as0 _ _ _
 .exact h
def aB3 {c:Int×Int}{p:cE}(h:gM c p=true):sH p:=⟨(Ej h).1,by have:=(Ej h).2;omega⟩
def as4 {c:Int×Int}{r:aA}(h:aT c r){p:cE}(a:gM c p=true):Ct F0 c r p=some ((nq c r p).1,(nq c r p).2,()):=by
 have e:=HC (uG h.f.t) (Ej a) c;have b:=h.fC (nM h.f.t p);have f:aW F0 (r.1,r.2.1,r.2.2.1,r.2.2.2.1,r.2.2.2.2.1,(bo c r.2.2.2.2.2.1 p).1,r.2.2.2.2.2.2)=some (fC r (bo c r.2.2.2.2.2.1 p).1,()):=dJ b.bt;obtain⟨x,g,i⟩:=QD b p.1 (Ej a).1 false;rw[ad0,dJ h.bt,ag,gx h.l,ag,h.ok,aG,aa,Qm (aB3 a),ag,a,aG,aa];simp only[ag,e,f,g];unfold nq aEA dk;cases (p.2.1.toList==aj.toList)<;>cases decide (p.1<r.2.1)
 .cases j:(bo c r.2.2.2.2.2.1 p).2 with
  |false=>rfl
  |true =>
   rw[ah ⟨rfl,rfl⟩];cases d:(gm c (fC r (bo c r.2.2.2.2.2.1 p).1) p.1 p.2.1 false).2 with
   |true=>rw[i d];rfl|false=>rw[avd d];rfl
 .rfl
 .rfl
 .rfl
def ao3 {c:Int×Int}{r:aA}(h:aT c r){p:cE}(a:gM c p=true):C3 F0 c r p=some ((nq c r p).1,(nq c r p).2,()):=by
 have b:=Dg (uG h.f.t) (Ej a) c;have d:=h.fC (nM h.f.t p);have e:mA F0 c (r.1,r.2.1,r.2.2.1,r.2.2.2.1,r.2.2.2.2.1,(bo c r.2.2.2.2.2.1 p).1,r.2.2.2.2.2.2) p.1 p.2.1 false=some ((gm c (fC r (bo c r.2.2.2.2.2.1 p).1) p.1 p.2.1 false).1,(gm c (fC r (bo c r.2.2.2.2.2.1 p).1) p.1 p.2.1 false).2,()):=Z9 d p.1 (Ej a).1 false;rw[aeG,dV h.l,ag,h.ok,aG,aa,Mk (aB3 a),ag,a,aG,aa,dK h.bt];simp only[ag,b,e];unfold nq aEA dk;cases (p.2.1.toList==aj.toList)<;>cases decide (p.1<r.2.1)
 .cases f:(bo c r.2.2.2.2.2.1 p).2<;>rfl
 .rfl
 .rfl
 .rfl
def as5 (q:cE):Int:=E8 60 (ai (q.1+1))
def r6 (c:Int×Int)(r:aA)(view:Int):Bool:=decide (bW c view=r.1)&&decide (view>=r.2.1)
def Vx (l:Bool)(o:aA)(view:Int)(q:cE):aA:=if l=true then Ek (Ek o (as5 q)) view else Ek o (as5 q)
def u7 (imp:Bool)(c:Int×Int)(r:aA)(view:Int)(q:cE)(cC:Int)(o:aA):aA×Bool :=
 if r6 c r view=true then
  if (bo c o.2.2.2.2.2.1 (one view aj cC)).2=true then
   (Vx (MB c (bo c o.2.2.2.2.2.1 (one view aj cC)).1 view) (fC o (bo c o.2.2.2.2.2.1 (one view aj cC)).1) view q,true)
  else (r,false)
 else (Vx (imp&&MB c o.2.2.2.2.2.1 view) o view q,true)
def nr (imp:Bool)(c:Int×Int)(r:aA)(view:Int)(q:cE)(cC:Int):aA×Bool:=if (written c r q).2=true then u7 imp c r view q cC (written c r q).1 else (r,false)
def We {imp:Bool}{c:Int×Int}{r:aA}{view:Int}{q:cE}{cC:Int}{o:aA}(h:r6 c r view=false):u7 imp c r view q cC o=(Vx (imp&&MB c o.2.2.2.2.2.1 view) o view q,true):=af (by rw[h];decide)
def ano {imp:Bool}{c:Int×Int}{r:aA}{view:Int}{q:cE}{cC:Int}{o:aA}(h:r6 c r view=true)(a:(bo c o.2.2.2.2.2.1 (one view aj cC)).2=false):u7 imp c r view q cC o=(r,false):=by unfold u7;rw[ah h,af (by rw[a];decide)]
def anp {imp:Bool}{c:Int×Int}{r:aA}{view:Int}{q:cE}{cC:Int}{o:aA}(h:r6 c r view=true)(a:(bo c o.2.2.2.2.2.1 (one view aj cC)).2=true) :
  u7 imp c r view q cC o=(Vx (MB c (bo c o.2.2.2.2.2.1 (one view aj cC)).1 view) (fC o (bo c o.2.2.2.2.2.1 (one view aj cC)).1) view q,true):=by
 unfold u7;rw[ah h,ah a]
def ajn (x:Int):E8 60 x<=60:=by unfold E8;split<;>omega
def Wg (x:Int):E8 x 60=E8 60 x:=by unfold E8;split<;>split<;>omega
def aAi (a b c:Int):vP (vP a b) c=vP (vP a c) b:=by
 unfold vP
 repeat' split
 all_goals omega
def aT.Vx {c:Int×Int}{o:aA}(h:aT c o)(l:Bool){view:Int}(a:view<=60)(q:cE):aT c (Vx l o view q):=by
 unfold Tryz.Vx;split
 .exact(h.raised (ajn _)).raised a
 .exact h.raised (ajn _)
def aT.u7 {c:Int×Int}{r o:aA}(h:aT c r)(a:aT c o)(imp:Bool){view:Int}(b:view<=60)(q:cE)(cC:Int):aT c (u7 imp c r view q cC o).1:=by
 unfold Tryz.u7;split
 .split
  .exact(a.fC (nM a.f.t _)).Vx _ b q
  .exact h
 .exact a.Vx _ b q
def aT.aAj {c:Int×Int}{r:aA}(h:aT c r)(imp:Bool){view:Int}(a:view<=60)(q:cE)(cC:Int):aT c (nr imp c r view q cC).1:=by
 unfold nr;split
 .exact h.u7 (h.w q) imp a q cC
 .exact h
def as6 {c:Int×Int}{r:aA}(h:aT c r){view:Int}(m:e4 1 60 view=true){q:cE}(e:eK c q=true){cC:Int}(n:e4 0 (ai (c.1-1)) cC=true) :
  Cu F0 c r view q cC=some ((nr false c r view q cC).1,(nr false c r view q cC).2,()):=by
 have i:=M8 e;have d:aT c (written c r q).1:=h.w q;rw[ad2,dJ h.bt,ag,gx h.l,ag,h.ok,aG,aa,cO,ag,m,aG,aa,Ql i,ag,e,aG,aa,cO,ag,n,aG,aa,asQ h.l.s i];simp only[ag];rw[QC h (ang h q),ag];unfold nr;unfold written at d ⊢;generalize lQ c r (see c r.2.2.2.1 q)=W at d ⊢;obtain⟨a,o⟩:=W;dsimp only at d ⊢;cases o with
 |false=>rfl
 |true =>
  have p:eM F0 c a.2.2.2.2.2.1 (view,aj,[cC])=some ((bo c a.2.2.2.2.2.1 (one view aj cC)).1,(bo c a.2.2.2.2.2.1 (one view aj cC)).2,()):=HC (uG d.f.t) ⟨aQ _,by show 1<=1000;omega⟩ c;have j:=nM d.f.t (one view aj cC);have s:=Qz (l:=(bo c a.2.2.2.2.2.1 (one view aj cC)).1) (cj (uG j).1 (by omega)) (fun q e=>(uG j).l e) view aj;show _=some ((u7 false c r view q cC a).1,(u7 false c r view q cC a).2,());rw[ah rfl];simp only[ag,JP,p,s,ZO,BK,V8,ae];by_cases f:bW c view=r.1
  .rw[bc.2 f,ae];by_cases g:view>=r.2.1
   .have b:r6 c r view=true:=by unfold r6;rw[aH f,aH g];rfl
    rw[aH g,ae];cases k:(bo c a.2.2.2.2.2.1 (one view aj cC)).2 with
    |false=>rw[ano b k];rfl
    |true =>
     rw[anp b k,aG,aa];unfold MB;cases t:decide (((dq (bo c a.2.2.2.2.2.1 (one view aj cC)).1 view aj).2.2.length:Int)>=BH c) with
     |false=>rw[aa,Wg];rfl|true=>rw[ae,Wg,aAi];rfl
   .have b:r6 c r view=false:=by unfold r6;rw[aK g,afF]
    rw[We b,aK g,aa,Wg];rfl
  .have b:r6 c r view=false:=by unfold r6;rw[aK f,WV]
   rw[We b,bR.2 f,aa,Wg];rfl
def ao4 {c:Int×Int}{r:aA}(h:aT c r){view:Int}(l:e4 1 60 view=true){q:cE}(g:eK c q=true){cC:Int}(m:e4 0 (ai (c.1-1)) cC=true) :
  C4 F0 c r view q cC=some ((nr true c r view q cC).1,(nr true c r view q cC).2,()):=by
 have i:=M8 g;have b:aT c (written c r q).1:=h.w q;rw[aeI,dV h.l,ag,h.ok,aG,aa,bM,ag,l,aG,aa,Pj i,ag,g,aG,aa,bM,ag,m,aG,aa,am5 h.l.s i,dK h.bt];simp only[ag];rw[Z7 h (ang h q),ag];unfold nr;unfold written at b ⊢;generalize lQ c r (see c r.2.2.2.1 q)=W at b ⊢;obtain⟨a,n⟩:=W;dsimp only at b ⊢;cases n with
 |false=>rfl
 |true =>
  have o:ep F0 c a.2.2.2.2.2.1 (view,aj,[cC])=some ((bo c a.2.2.2.2.2.1 (one view aj cC)).1,(bo c a.2.2.2.2.2.1 (one view aj cC)).2,()):=Dg (uG b.f.t) ⟨aQ _,by show 1<=1000;omega⟩ c;have p:=nM b.f.t (one view aj cC);have s:(if 60<ai (q.1+1) then 60 else ai (q.1+1))=as5 q:=rfl;have t:rv F0 c (a.1,(if as5 q>a.2.1 then as5 q else a.2.1,(a.2.2.1,a.2.2.2.1,a.2.2.2.2.1,(bo c a.2.2.2.2.2.1 (one view aj cC)).1,a.2.2.2.2.2.2))) view=some (MB c (bo c a.2.2.2.2.2.1 (one view aj cC)).1 view,()) :=
   anj (r:=Ek (fC a (bo c a.2.2.2.2.2.1 (one view aj cC)).1) (as5 q)) ((b.fC p).raised (ajn _)).l view
  have u:rv F0 c (a.1,(if as5 q>a.2.1 then as5 q else a.2.1,a.2.2)) view=some (MB c a.2.2.2.2.2.1 view,()):=anj (r:=Ek a (as5 q)) (b.raised (ajn _)).l view;show _=some ((u7 true c r view q cC a).1,(u7 true c r view q cC a).2,());rw[aG,aa,s];simp only[ag,HR,o,t,u];by_cases e:bW c view=r.1
  .rw[bc.2 e,ae];by_cases f:view>=r.2.1
   .have d:r6 c r view=true:=by unfold r6;rw[aH e,aH f];rfl
    rw[aH f,ae];cases j:(bo c a.2.2.2.2.2.1 (one view aj cC)).2 with
    |false=>rw[ano d j];rfl
    |true =>
     rw[anp d j,aG,aa];cases k:MB c (bo c a.2.2.2.2.2.1 (one view aj cC)).1 view<;>rfl
   .have d:r6 c r view=false:=by unfold r6;rw[aK f,afF]
    rw[We d,aK f,aa,hH];cases k:MB c a.2.2.2.2.2.1 view<;>rfl
  .have d:r6 c r view=false:=by unfold r6;rw[aK e,WV]
   rw[We d,bR.2 e,aa,hH];cases k:MB c a.2.2.2.2.2.1 view<;>rfl
def Wh (r:aA)(p:List dU):aA:=(r.1,r.2.1,r.2.2.1,r.2.2.2.1,p,r.2.2.2.2.2)
def Vy (r:aA)(x:dU):aA×Bool:=(Wh r (ky r.2.2.2.2.1 x).1,(ky r.2.2.2.2.1 x).2)
def aT.Wh {c:Int×Int}{r:aA}(h:aT c r){p:List dU}(a:eI p=true):aT c (Wh r p) :=
 ⟨⟨h.f.cf,h.f.i,h.f.v,h.f.a,h.f.s,a,h.f.t,h.f.d,h.f.n,h.f.h⟩,h.b⟩
def aT.aDy {c:Int×Int}{r:aA}(h:aT c r)(x:dU):aT c (Vy r x).1:=h.Wh (axe h.f.p x)
def axi {l:List dU}{x:dU}(h:(ky l x).2=false):(ky l x).1=l:=by
 unfold ky at h ⊢;cases a:eI (Dh x l) with
 |true=>rw[a,ah rfl]at h;cases h|false=>rfl
def axj {c:Int×Int}{r:aA}(h:aT c r)(x:dU):KS F0 c r x=some ((Vy r x).1,(Vy r x).2,()):=by
 have b:=(Z6 h.f.p).1;rw[ak8,dJ h.bt,ag,gx h.l,ag,h.ok,aG,aa,au2 (by omega),ag];unfold Vy;cases a:(ky r.2.2.2.2.1 x).2 with
 |true=>rfl|false=>rw[axi a];rfl
def avg {c:Int×Int}{r:aA}(h:aT c r)(x:dU):LZ F0 c r x=some ((Vy r x).1,(Vy r x).2,()):=by have a:=(Z6 h.f.p).1;rw[al4,dK h.bt,ag,dV h.l,ag,h.ok,aG,aa,asU (by omega),ag];rfl
def El (imp:Bool)(c:Int×Int)(r:aA)(m:ct):aA×Bool :=
 if m.1=1 then ig c r m.2.2.1 else if m.1=2 then nq c r m.2.2.2.1 else if m.1=3 then nr imp c r m.2.1 m.2.2.2.2.1 m.2.2.2.2.2.1 else Vy r m.2.2.2.2.2.2
def Pp (r:aA):aA:=fC r (acS r.2.2.2.2.2.1 (ai (r.2.1-1)))
def finish (c:Int×Int)(r:aA):aA:=Wh (Pp r) (anb r.2.2.2.2.1 (fR c (Pp r)))
def M9 (imp:Bool)(c:Int×Int)(r:aA)(m:ct):aA×Bool:=if dp c m=true/\(El imp c r m).2=true then (finish c (El imp c r m).1,true) else (r,false)
def aT.Pp {c:Int×Int}{r:aA}(h:aT c r):aT c (Pp r):=h.fC (anm h.f.t _)
def aT.finish {c:Int×Int}{r:aA}(h:aT c r):aT c (finish c r):=h.Pp.Wh (ao2 h.f.p _)
def ac2 (c:Int×Int)(r:aA):(fR c r).1.length<=4/\(fR c r).2.length<=4:=by
 unfold fR;split
 .have:=Hs M5 (xs:=amQ r.2.2.2.1.2.2.2);exact⟨Nat.le_of_eq this.1,Nat.le_of_eq this.2⟩
 .exact⟨aQ _,aQ _⟩
structure aGi (c:Int×Int) (m:ct):Prop where
 k:m.1=1\/m.1=2\/m.1=3\/m.1=4
 b:m.1=1->fm c m.2.2.1=true
 p:m.1=2->gM c m.2.2.2.1=true/\dk m.2.2.2.1.2.1=false
 v:m.1=3->e4 1 60 m.2.1=true/\eK c m.2.2.2.2.1=true/\e4 0 (ai (c.1-1)) m.2.2.2.2.2.1=true
 t:m.1=4->fB m.2.2.2.2.2.2=true
 s:named m=m
def ac3 {c:Int×Int}{m:ct}(h:dp c m=true):aGi c m:=by
 unfold dp at h;simp only[aD]at h;obtain⟨i,g,a⟩:=h;have d:=Z1 g;by_cases b:m.1=1
 .rw[ah (by simpa using b)]at a;exact⟨.inl b,fun _=>a,fun h=>by omega,fun h=>by omega,fun h=>by omega,d⟩
 .by_cases e:m.1=2
  .rw[af (by simpa using b),ah (by simpa using e)]at a;simp only[aD,afD]at a;exact⟨.inr (.inl e),fun h=>by omega,fun _=>a,fun h=>by omega,fun h=>by omega,d⟩
  .by_cases f:m.1=3
   .rw[af (by simpa using b),af (by simpa using e),ah (by simpa using f)]at a;simp only[aD]at a;exact⟨.inr (.inr (.inl f)),fun h=>by omega,fun h=>by omega,fun _=>a,fun h=>by omega,d⟩
   .rw[af (by simpa using b),af (by simpa using e),af (by simpa using f)]at a;simp only[aD,bc]at a;exact⟨.inr (.inr (.inr a.1)),fun h=>by omega,fun h=>by omega,fun h=>by omega,fun _=>a.2,d⟩
def aT.axk {c:Int×Int}{r:aA}(h:aT c r)(imp:Bool){m:ct}(a:dp c m=true):aT c (El imp c r m).1:=by
 have b:=ac3 a;unfold El;split
 .exact h.ann _
 .split
  .exact h.aAh _
  .split
   .rename_i d;have:=(b.v d).1;simp only[e4,aD,bV]at this;exact h.aAj imp this.2 _ _
   .exact h.aDy _
def aT.heard {c:Int×Int}{r:aA}(h:aT c r)(imp:Bool)(m:ct):aT c (M9 imp c r m).1:=by
 unfold M9;split
 .rename_i a;exact(h.axk imp a.1).finish
 .exact h
def avh {c:Int×Int}{r:aA}(h:aT c r){m:ct}(b:dp c m=true):GN F0 c r m=some ((El false c r m).1,(El false c r m).2,()):=by
 have a:=ac3 b;rw[ahX];unfold El;rcases a.k with k|k|k|k
 .rw[bc.2 k,ae,ah k,YG h (a.b k),ag]
 .rw[bR.2 (show m.1≠1 by omega),aa,bc.2 k,ae,af (by omega),ah k,as4 h (a.p k).1,ag]
 .rw[bR.2 (show m.1≠1 by omega),aa,bR.2 (show m.1≠2 by omega),aa,bc.2 k,ae,af (by omega),af (by omega),ah k,as6 h (a.v k).1 (a.v k).2.1 (a.v k).2.2,ag]
 .rw[bR.2 (show m.1≠1 by omega),aa,bR.2 (show m.1≠2 by omega),aa,bR.2 (show m.1≠3 by omega),aa,af (by omega),af (by omega),af (by omega),axj h,ag]
def avi {c:Int×Int}{r:aA}(h:aT c r){m:ct}(e:fc m):Oc F0 c r m=some ((M9 false c r m).1,(M9 false c r m).2,()):=by
 rw[arO,gx h.l,ag,h.ok,aG,aa,HU e,ag,dJ h.bt,ag];unfold M9;cases d:dp c m with
 |false=>rfl
 |true =>
  rw[avh h d,ag];have b:=h.axk false d;generalize El false c r m=X at b ⊢;obtain⟨a,ok⟩:=X;dsimp only at b ⊢;cases ok with
  |false=>rfl
  |true =>
   have f:IX F0 c (a.1,a.2.1,a.2.2.1,a.2.2.2.1,a.2.2.2.2.1,acS a.2.2.2.2.2.1 (ai (a.2.1-1)),a.2.2.2.2.2.2)=some (fR c (Pp a),()):=azZ b.Pp.l c;have i:=ac2 c (Pp a);have g:=asW (p:=a.2.2.2.2.1) b.l.p (l:=fR c (Pp a)) (by omega) (by omega);rw[aoW b.l.t b.l.tq,ag,f,ag,g,ag];rfl
def aql {c:Int×Int}{r:aA}(h:aT c r){m:ct}(i:fc m):HO F0 c r m=some ((M9 true c r m).1,(M9 true c r m).2,()):=by
 rw[ase,JS i,ag,dK h.bt,ag];unfold M9;cases f:dp c m with
 |false=>rfl
 |true =>
  have d:=ac3 f;have tail:∀a:aA,aT c a->∀ok:Bool,br (!ok) (some (r,false,())) ((gk F0 a.2.2.2.2.2.1 (ai (a.2.1-1))).bind fun g=>(iG F0 c (a.1,a.2.1,a.2.2.1,a.2.2.2.1,a.2.2.2.2.1,g.1,a.2.2.2.2.2.2)).bind fun j=>(hY F0 a.2.2.2.2.1 j.1).bind fun n=>some ((a.1,a.2.1,a.2.2.1,a.2.2.2.1,n.1,g.1,a.2.2.2.2.2.2),true,())) =
    some ((if true=true/\ok=true then (finish c a,true) else (r,false)).1,(if true=true/\ok=true then (finish c a,true) else (r,false)).2,()):=fun a b ok=>by
   cases ok with
   |false=>rfl
   |true =>
    have o:iG F0 c (a.1,a.2.1,a.2.2.1,a.2.2.2.1,a.2.2.2.2.1,acS a.2.2.2.2.2.1 (ai (a.2.1-1)),a.2.2.2.2.2.2)=some (fR c (Pp a),()):=ZX b.Pp.l c;have s:=ac2 c (Pp a);have q:=aoY (p:=a.2.2.2.2.1) b.l.p (l:=fR c (Pp a)) (by omega) (by omega);rw[am9 b.l.t b.l.tq,ag,o,ag,q,ag];rfl
  have b:=h.axk true f;rw[aG,aa];rcases d.k with k|k|k|k
  .have e:El true c r m=ig c r m.2.2.1:=ah k;rw[e]at b ⊢;rw[bc.2 k,ae,Vw h (d.b k),ag];exact tail _ b _
  .have e:El true c r m=nq c r m.2.2.2.1:=by unfold El;rw[af (by omega),ah k]
   rw[e]at b ⊢;rw[bR.2 (show m.1≠1 by omega),aa,bc.2 k,ae,ao3 h (d.p k).1,ag];exact tail _ b _
  .have e:El true c r m=nr true c r m.2.1 m.2.2.2.2.1 m.2.2.2.2.2.1:=by unfold El;rw[af (by omega),af (by omega),ah k]
   rw[e]at b ⊢;rw[bR.2 (show m.1≠1 by omega),aa,bR.2 (show m.1≠2 by omega),aa,bc.2 k,ae,ao4 h (d.v k).1 (d.v k).2.1 (d.v k).2.2,ag];exact tail _ b _
  .have e:El true c r m=Vy r m.2.2.2.2.2.2:=by unfold El;rw[af (by omega),af (by omega),af (by omega)]
   rw[e]at b ⊢;rw[bR.2 (show m.1≠1 by omega),aa,bR.2 (show m.1≠2 by omega),aa,bR.2 (show m.1≠3 by omega),aa,avg h,ag];exact tail _ b _
def pA (w:ak):(b8 w).length<=w.2.2.1.length:=Qp _ _
def Wi {U ζ γ:Type}(X:Nat->Int->ζ->Option γ)(a:List U)(f:ζ->U->ζ)(I:ζ->Prop)(R:Option γ)(b:ζ)(d:I b)(e:∀z x,x∈a->I z->I (f z x))
  (g:∀n k z (h:k<a.length),I z->X (n+1) (k:Int) z=X n ((k+1:Nat):Int) (f z a[k])) (i:∀n,X (n+1) (a.length:Int) (a.foldl f b)=R) (n:Nat) (j:a.length<n):X n 0 b=R:=by
 refine cp X a.length (fun k z=>z=(a.take k).foldl f b/\I z) R (fun n k z c h=>.inr ⟨_,g n k z c h.2,?_,e _ _ (cy c) h.2⟩) (fun n z h=>?_) n 0 b (aQ _) ⟨rfl,d⟩ (by omega)
 .rw[hz c,List.foldl_append,h.1];rfl
 .rw[h.1,mH];exact i n
def isSaid (view:Int)(name:ByteArray)(cC:Int)(y:dG):Bool:=(y.1==view)&&((y.2.1.toList==name.toList)&&(y.2.2==cC))
def iN (l:List dG)(view:Int)(name:ByteArray)(cC:Int):Bool:=l.any (isSaid view name cC)
def avj {U:Type}{p:U->Bool}{l:List U}{k:Nat}(a:k<l.length):(l.drop k).any p=(p l[k] || (l.drop (k+1)).any p):=by rw[QG a,List.any_cons]
def anq {l:List dG}(h:l.length<=1048576)(view:Int)(name:ByteArray)(cC:Int):DF F0 l view name cC=some (iN l view name cC,()):=by
 rw[alc];refine cp (fun n k (z:Unit)=>nE F0 (tJ F0) n (iZ l view name cC k)) l.length (fun k _=>iN l view name cC=(l.drop k).any (isSaid view name cC)) _ (fun n k z b a=>?_) (fun n z a=>?_) F0.n 0 () (aQ _) rfl (by rw[bH];omega)
 .rw[avj b]at a;rw[IZ,aO b,ae,ao b,ad,ad,ad,bb b,ad6,al (by omega),a];unfold isSaid;cases c:(l[k].1==view) with
  |false=>exact .inr ⟨(),aa _ _,rfl⟩
  |true =>
   cases d:(l[k].2.1.toList==name.toList) with
   |false=>exact .inr ⟨(),by rw[ae,aa],rfl⟩
   |true =>
    cases e:(l[k].2.2==cC) with
    |false=>exact .inr ⟨(),by rw[ae,ae,aa],rfl⟩
    |true=>exact .inl rfl
 .rw[WU]at a;rw[IZ,aE,aa,abt,a];rfl
def aDz {l:List dG}(h:l.length<=1048576)(x:dG):∃r,VS F0 l x=some (r,())/\decide (r>=0)=iN l x.1 x.2.1 x.2.2:=by
 rw[ar2];have key:∀(a k n:Nat),k+a=l.length->a<n->∃r,LF F0 (CW F0) n (CU l (l.length:Int) (k:Int) x.1 x.2.1 x.2.2)=some (r,())/\decide (r>=0)=(l.drop k).any (isSaid x.1 x.2.1 x.2.2):=by
  intro a
  induction a with
  |zero =>
   intro k n c d;obtain⟨n,rfl⟩:∃m,n=m+1:=⟨n-1,by omega⟩;obtain rfl:k=l.length:=by omega
   rw[OI,aE,aa,aiw,WU];exact⟨-1,rfl,rfl⟩
  |succ a f =>
   intro k n c d;obtain⟨n,rfl⟩:∃m,n=m+1:=⟨n-1,by omega⟩;have b:k<l.length:=by omega
   have e:((x.1==l[k].1)&&((x.2.1.toList==l[k].2.1.toList)&&((x.2.2==l[k].2.2)&&true)))=isSaid x.1 x.2.1 x.2.2 l[k]:=by unfold isSaid;rw[Bool.and_true,show(x.1==l[k].1)=(l[k].1==x.1) from Fe,show(x.2.1.toList==l[k].2.1.toList)=(l[k].2.1.toList==x.2.1.toList) from Fe,show(x.2.2==l[k].2.2)=(l[k].2.2==x.2.2) from Fe]
   rw[OI,aO b,ae,ao b,ad,bb b,e,alS,al (by omega),avj b];cases g:isSaid x.1 x.2.1 x.2.2 l[k]with
   |true=>exact⟨(k:Int),ae _ _,by rw[aH (show(k:Int)>=0 by omega)];rfl⟩
   |false =>
    rw[aa,va];exact f (k+1) n (by omega) (by omega)
 exact key l.length 0 F0.n (by omega) (by rw[bH];omega)
def BO {l:List dG}(h:l.length<=1048576)(x:dG):cV F0 l x=some (iN l x.1 x.2.1 x.2.2,()):=by obtain⟨r,a,b⟩:=aDz h x;rw[E1,a,ag,b]
def Vz (liars:List Int)(l:List dG)(view:Int)(name:ByteArray)(i:Int):Bool:=decide (i∈liars) || iN l view name i
def signed (liars:List Int)(l:List dG)(view:Int)(name:ByteArray)(cC:List Int):Bool:=cC.all (Vz liars l view name)
def aab {liars:List Int}(c:liars.length<=1048576){l:List dG}(b:l.length<=1048576)(view:Int)(name:ByteArray){cC:List Int}(d:cC.length<=1048576):vz F0 liars l view name cC=some (signed liars l view name cC,()):=by
 rw[ald,kf (fun m k=>sk F0 (tK F0) m (mT liars l view name cC k)) cC.length (fun k=>Vz liars l view name (cC.getD k 0)) (some (true,())) (some (false,())) (fun m k a=>?_) (fun m=>?_) _ (by rw[bH];omega),JN,Pk]
 .rfl
 .rw[I0,aO a,ae,ao a,ad,ad,bb a,e3 (by omega),ag,anq b,ag,ad7,al (by omega),aY a];unfold Vz;cases decide (cC[k]∈liars)<;>cases iN l view name cC[k]<;>rfl
 .rw[I0,aE,aa,abu]
def VA {liars:List Int}(c:liars.length<=1048576){l:List dG}(b:l.length<=1048576)(view:Int)(name:ByteArray){cC:List Int}(d:cC.length<=1048576):vH F0 liars l view name cC=some (signed liars l view name cC,()):=by
 rw[al8,kf (fun m k=>sD F0 (uq F0) m (nh liars l view name cC (cC.length:Int) k)) cC.length (fun k=>Vz liars l view name (cC.getD k 0)) (some (true,())) (some (false,())) (fun m k a=>?_) (fun m=>?_) _ (by rw[bH];omega),JN,Pk]
 .rfl
 .rw[JF,aO a,ae,ao a,ad,bb a,eF (by omega),ag,BO b,ag,aeP,al (by omega),aY a];unfold Vz;cases decide (cC[k]∈liars)<;>cases iN l view name cC[k]<;>rfl
 .rw[JF,aE,aa,acf]
def MD (liars:List Int)(l:List dG)(q:cE):Bool:=signed liars l q.1 q.2.1 q.2.2
def Na (c:Int×Int)(liars:List Int)(l:List dG)(m:ct):Bool :=
 dp c m&&(if m.1=1 then decide (bW c (aZ m.2.2.1.1.data.toList)∈liars)&&MD liars l m.2.2.1.2 else if m.1=2 then MD liars l m.2.2.2.1 else if m.1=3 then decide (m.2.2.2.2.2.1∈liars)&&MD liars l m.2.2.2.2.1 else true)
def axl {c:Int×Int}{liars:List Int}(f:liars.length<=1048576){l:List dG}(g:l.length<=1048576){m:ct}(a:fc m):KU F0 c liars l m=some (Na c liars l m,()):=by
 rw[alf,HU a,ag,nK a.1,ag,JP,ag,e3 (by omega),ag,aab f g _ _ a.2.1.2,ag,aab f g _ _ a.2.2.1.2,ag,e3 (by omega),ag,aab f g _ _ a.2.2.2.2,ag];unfold Na;cases dp c m with
 |false=>rfl
 |true =>
  rw[aG,aa,hH];by_cases b:m.1=1
  .rw[bc.2 b,ae,ah b];dsimp only;cases decide (bW c (aZ m.2.2.1.1.data.toList)∈liars)<;>rfl
  .rw[bR.2 b,aa,af b];by_cases d:m.1=2
   .rw[bc.2 d,ae,ah d];rfl
   .rw[bR.2 d,aa,af d];by_cases e:m.1=3
    .rw[bc.2 e,ae,ah e];dsimp only;cases decide (m.2.2.2.2.2.1∈liars)<;>rfl
    .rw[bR.2 e,aa,af e]
def as7:qc F0=some (b5,()):=by rw[RM];rfl
def ac4 {liars:List Int}{l:List dG}{q:cE}{U:Type}(f:Bool->U):br (gN q b5) (some (f true)) (some (f (MD liars l q)))=some (f (MD liars l q)):=by
 cases h:gN q b5 with
 |false=>rfl
 |true =>
  have:=V4 h;subst this;rfl
def avk {c:Int×Int}{liars:List Int}(d:liars.length<=1048576){l:List dG}(e:l.length<=1048576){m:ct}(a:fc m):L6 F0 c liars l m=some (Na c liars l m,()):=by
 rw[ama,JS a,ag,py a.1,ag,HR,ag,eF (by omega),ag,as7,ag,JR a.2.1,ag,VA d e _ _ a.2.1.2,ag,VA d e _ _ a.2.2.1.2,ag,eF (by omega),ag,ag,JR a.2.2.2,ag,VA d e _ _ a.2.2.2.2,ag];dsimp only;have f1:=ac4 (liars:=liars) (l:=l) (q:=m.2.2.1.2) (fun b=>(b,()));have f2:=ac4 (liars:=liars) (l:=l) (q:=m.2.2.2.2.1) (fun b=>(b,()));unfold MD at f1 f2;rw[f1,f2];unfold Na;cases cU:dp c m with
 |false=>rfl
 |true =>
  rw[aG,aa,hH];rcases(ac3 cU).k with k|k|k|k
  .rw[bR.2 (show m.1≠4 by omega),aa,bR.2 (show m.1≠2 by omega),aa,bc.2 k,ae,ah k];unfold MD;cases decide (bW c (aZ m.2.2.1.1.data.toList)∈liars)<;>rfl
  .rw[bR.2 (show m.1≠4 by omega),aa,bc.2 k,ae,af (by omega),ah k];rfl
  .rw[bR.2 (show m.1≠4 by omega),aa,bR.2 (show m.1≠2 by omega),aa,bR.2 (show m.1≠1 by omega),aa,af (by omega),af (by omega),ah k];unfold MD;cases decide (m.2.2.2.2.2.1∈liars)<;>rfl
  .rw[bc.2 k,ae,af (by omega),af (by omega),af (by omega)]
def YH (id:Int)(q:cE):List dG:=if dk q.2.1=true then [] else if id∈q.2.2 then [(q.1,q.2.1,id)] else []
def c7 (id:Int)(m:ct):List dG:=if m.1=4 then [] else if m.1=2 then YH id m.2.2.2.1 else if m.1=1 then YH id m.2.2.1.2 else YH id m.2.2.2.2.1
def Pq (id:Int)(q:cE):br (q.2.1.toList==aj.toList) (some (([]:List dG),())) (br (!decide (id∈q.2.2)) (some ([],())) (some ([(q.1,q.2.1,id)],())))=some (YH id q,()):=by
 unfold YH dk;cases (q.2.1.toList==aj.toList) with
 |true=>rfl
 |false =>
  by_cases h:id∈q.2.2
  .rw[aH h,af (by decide),ah h];rfl
  .rw[aK h,af (by decide),af h];rfl
def axm {m:ct}(d:fc m)(id:Int):La F0 id m=some (c7 id m,()):=by
 rw[aln,e3 (cj d.2.2.1.2 (by omega)),ag,e3 (cj d.2.1.2 (by omega)),ag,e3 (cj d.2.2.2.2 (by omega)),ag];dsimp only;rw[Pq id m.2.2.2.1,Pq id m.2.2.1.2,Pq id m.2.2.2.2.1];unfold c7;by_cases a:m.1=4
 .rw[ah a,bR.2 (show m.1≠2 by omega),aa,bR.2 (show m.1≠1 by omega),aa,bc.2 a,ae]
 .rw[af a,bR.2 a,aa,aa,aa];by_cases b:m.1=2
  .rw[ah b,bc.2 b,ae]
  .rw[af b,bR.2 b,aa];by_cases c:m.1=1
   .rw[ah c,bc.2 c,ae]
   .rw[af c,bR.2 c,aa]
def agY {m:ct}(d:fc m)(id:Int):DQ F0 id m=some (c7 id m,()):=by
 rw[alR,eF (cj d.2.2.1.2 (by omega)),ag,eF (cj d.2.1.2 (by omega)),ag,eF (cj d.2.2.2.2 (by omega)),ag];dsimp only;rw[Pq id m.2.2.2.1,Pq id m.2.2.1.2,Pq id m.2.2.2.2.1];unfold c7;by_cases a:m.1=4
 .rw[ah a,bc.2 a,ae]
 .rw[af a,bR.2 a,aa];by_cases b:m.1=2
  .rw[ah b,bc.2 b,ae]
  .rw[af b,bR.2 b,aa];by_cases c:m.1=1
   .rw[ah c,bc.2 c,ae]
   .rw[af c,bR.2 c,aa]
def aac (id:Int)(m:ct):(c7 id m).length<=1:=by
 have a:∀q:cE,(YH id q).length<=1:=fun q=>by
  unfold YH;split
  .exact aQ _
  .split
   .exact bP _
   .exact aQ _
 unfold c7;split
 .exact aQ _
 .split
  .exact a _
  .split
   .exact a _
   .exact a _
def JZ (l:List dG)(x:dG):List dG:=if l.length<300/\iN l x.1 x.2.1 x.2.2=false then l++[x] else l
def axn (id:Int)(l:List dG)(p:kr):List dG:=(c7 id p.2).foldl JZ l
def as8 (id:Int)(list:List kr)(l:List dG):List dG:=list.foldl (axn id) l
def Aj (w:ak)(id:Int)(list:List kr):ak:=if id∈b8 w then (w.1,w.2.1,w.2.2.1,w.2.2.2.1,as8 id list w.2.2.2.2) else w
def aad {l:List dG}(h:l.length<=300)(x:dG):(JZ l x).length<=300:=by
 unfold JZ;split
 .rename_i a;rw[aL,dr];omega
 .exact h
def ac5:∀{xs:List dG} {l:List dG},l.length<=300->(xs.foldl JZ l).length<=300
 |[],_,h=>h|x::xs,l,h=>ac5 (xs:=xs) (aad h x)
def agZ (id:Int):∀{list:List kr} {l:List dG},l.length<=300->(as8 id list l).length<=300
 |[],_,h=>h|p::list,l,h=>agZ id (list:=list) (ac5 h)
def aAk {w:ak}(h:M7 w)(j:w.2.2.2.2.length<=300)(id:Int){list:List kr}(o:list.length<=1048576)(l:∀p∈list,fc p.2):I3 F0 w id list=some (Aj w id list,()):=by
 rw[aol,agT h,ag,amN h.l,ag,e3 (by have:=pA w;have:=h.l.r;dsimp only;omega),ag];unfold Aj;by_cases b:id∈b8 w
 .rw[aH b,ah b,aG,aa];refine Wi (fun n k z=>GP F0 (yi F0) n (yh id list k 0 0 w.1.1 w.1.2 [] [] [] [] w.2.1 w.2.2.1 w.2.2.2.1 z)) list (axn id) (fun z=>z.length<=300) _ w.2.2.2.2 j (fun z p q d=>ac5 d) (fun n k z c d=>?_) (fun n=>?_) _ (by rw[bH];omega)
  .rw[Lc,aO c,ae,ao c,ad,bb c,axm (l _ (cy c)),ag];have r:=aac id list[k].2;refine Wi (fun m a (y:List dG)=>p7 F0 (I2 F0 (yi F0) n) m (k8 id list (k:Int) a 0 0 w.1.1 w.1.2 (c7 id list[k].2) [] [] [] [] w.2.1 w.2.2.1 w.2.2.2.1 y)) (c7 id list[k].2) JZ (fun y=>y.length<=300) _ z d (fun y x s g=>aad g x) (fun m a y e g=>?_) (fun m=>?_) _ (by rw[bH];omega)
   .rw[Lb,aO e,ae,ao e,ad,bb e,anq (by omega),ag,av (by omega) (by omega) (by first|omega|(simp only[aL,aV,ba];omega)|(rw[a1,bz];omega)),ad,al (by omega)];unfold JZ;by_cases i:y.length<300
    .rw[aH (show(y.length:Int)<300 by omega),ae];cases iN y (c7 id list[k].2)[a].1 (c7 id list[k].2)[a].2.1 (c7 id list[k].2)[a].2.2 with
     |true=>rw[af (fun f=>by cases f.2)];rfl
     |false=>rw[ah ⟨i,rfl⟩];rfl
    .rw[aK (show ¬(y.length:Int)<300 by omega),aa,af (fun f=>i f.1)]
   .rw[Lb,aE,aa,aea,al (by omega)];rfl
  .rw[Lc,aE,aa,aeb];rfl
 .rw[aK b,af b];rfl
def axo {w:ak}(h:M7 w)(j:w.2.2.2.2.length<=300)(id:Int){list:List kr}(o:list.length<=1048576)(l:∀p∈list,fc p.2):P6 F0 w id list=some (Aj w id list,()):=by
 rw[aoz,kh h,ag,Mo h.l,ag,eF (by have:=pA w;have:=h.l.r;dsimp only;omega),ag];unfold Aj;by_cases b:id∈b8 w
 .rw[aH b,ah b,aG,aa];refine Wi (fun n k z=>G8 F0 (yP F0) n (yO id list (list.length:Int) k 0 0 w.1.1 w.1.2 [] [] [] [] w.2.1 w.2.2.1 w.2.2.2.1 z)) list (axn id) (fun z=>z.length<=300) _ w.2.2.2.2 j (fun z p q d=>ac5 d) (fun n k z c d=>?_) (fun n=>?_) _ (by rw[bH];omega)
  .rw[LH,aO c,ae,ao c,ad,bb c,agY (l _ (cy c)),ag];have r:=aac id list[k].2;refine Wi (fun m a (y:List dG)=>rh F0 (Jn F0 (yP F0) n) m (lB id list (list.length:Int) (k:Int) ((c7 id list[k].2).length:Int) a 0 0 w.1.1 w.1.2 (c7 id list[k].2) [] [] [] [] w.2.1 w.2.2.1 w.2.2.2.1 y)) (c7 id list[k].2) JZ (fun y=>y.length<=300) _ z d (fun y x s g=>aad g x) (fun m a y e g=>?_) (fun m=>?_) _ (by rw[bH];omega)
   .rw[LG,aO e,ae,ao e,ad,bb e,BO (by omega),ag,av (by omega) (by omega) (by first|omega|(simp only[aL,aV,ba];omega)|(rw[a1,bz];omega)),ad,al (by omega)];unfold JZ;by_cases i:y.length<300
    .rw[aH (show(y.length:Int)<300 by omega),ae];cases iN y (c7 id list[k].2)[a].1 (c7 id list[k].2)[a].2.1 (c7 id list[k].2)[a].2.2 with
     |true=>rw[af (fun f=>by cases f.2)];rfl
     |false=>rw[ah ⟨i,rfl⟩];rfl
    .rw[aK (show ¬(y.length:Int)<300 by omega),aa,af (fun f=>i f.1)];cases iN y (c7 id list[k].2)[a].1 (c7 id list[k].2)[a].2.1 (c7 id list[k].2)[a].2.2<;>rfl
   .rw[LG,aE,aa,aev,al (by omega)];rfl
  .rw[LH,aE,aa,aew];rfl
 .rw[aK b,af b];rfl
def ag0 (c:Int×Int)(a:List nk)(p:kr):List nk:=if a.length<60/\dp c p.2=true/\e4 0 (ai (c.1-1)) p.1=true then a++[(p.1,Hy p.2)] else a
def axp (c:Int×Int)(list:List kr)(a:List nk):List nk:=list.foldl (ag0 c) a
def ac6 (w:ak)(list:List kr):ak:=(w.1,w.2.1,w.2.2.1,axp w.1 list w.2.2.2.1,w.2.2.2.2)
def afu {c:Int×Int}{a:List nk}(h:a.length<=60)(p:kr):(ag0 c a p).length<=60:=by
 unfold ag0;split
 .rename_i b;rw[aL,dr];omega
 .exact h
def aqm (c:Int×Int)(m:ct):decide (((acP c m).length:Int)>0)=dp c m:=by
 unfold acP;cases h:dp c m with
 |false=>rfl
 |true =>
  have:=(am1 h).2.2;rw[ah rfl];exact aH (by omega)
def ag1 {w:ak}(e:w.2.2.2.1.length<=60){list:List kr}(h:list.length<=1048576)(f:∀p∈list,fc p.2):yd F0 w list=some ((ac6 w list,()),()):=by
 rw[ah1];refine Wi (fun n k z=>iC F0 (Bf F0) n (fw list k w.1.1 w.1.2 0 0 w.2.1 w.2.2.1 z w.2.2.2.2 [] [] [] [])) list (ag0 w.1) (fun z=>z.length<=60) _ w.2.2.2.1 e (fun z p i c=>afu c p) (fun n k z b c=>?_) (fun n=>?_) _ (by rw[bH];omega)
 .rw[FC,aO b,ae,ao b,ad,bb b,show((w.1.1,w.1.2):Int×Int)=w.1 from rfl,asN (f _ (cy b)),ag,ad,cO,ag,ad,av (by omega) (by omega) (by first|omega|(simp only[aL,aV,ba];omega)|(rw[a1,bz];omega)),ad,al (by omega)];dsimp only;rw[aqm];unfold ag0;by_cases d:z.length<60
  .rw[aH (show(z.length:Int)<60 by omega),ae];cases g:dp w.1 list[k].2 with
   |false=>rw[af (fun a=>by cases a.2.1)];rfl
   |true =>
    cases j:e4 0 (ai (w.1.1-1)) list[k].1 with
    |false=>rw[af (fun a=>by cases a.2.2)];rfl
    |true=>rw[ah ⟨d,rfl,rfl⟩,ae,ae,show acP w.1 list[k].2=Hy list[k].2 from ah g]
  .rw[aK (show ¬(z.length:Int)<60 by omega),aa,af (fun a=>d a.1)]
 .rw[FC,aE,aa,Zn];rfl
def aAl {w:ak}(h:M7 w)(e:w.2.2.2.1.length<=60){list:List kr}(i:list.length<=1048576)(f:∀p∈list,fc p.2):OL F0 w list=some (if oG w=true then ac6 w list else w,()):=by
 rw[ar4,kh h,ag,Ad h.l,ag];cases cU:oG w with
 |false=>rfl
 |true =>
  rw[aG,aa,ah rfl];refine Wi (fun n k z=>pj F0 (MV F0) n (kc list (list.length:Int) k w.1.1 w.1.2 w.2.1 w.2.2.1 w.2.2.2.1 w.2.2.2.2 0 0 w.1.1 w.1.2 [] [] [] [] w.2.1 w.2.2.1 z w.2.2.2.2)) list (ag0 w.1) (fun z=>z.length<=60) _ w.2.2.2.1 e (fun z p j c=>afu c p) (fun n k z b c=>?_) (fun n=>?_) _ (by rw[bH];omega)
  .rw[OK,aO b,ae,ao b,ad,bb b,show((w.1.1,w.1.2):Int×Int)=w.1 from rfl,YC (f _ (cy b)),ag,bM,ag,av (by omega) (by omega) (by first|omega|(simp only[aL,aV,ba];omega)|(rw[a1,bz];omega)),ad,al (by omega)];dsimp only;rw[aqm];unfold ag0;cases g:dp w.1 list[k].2 with
   |false=>rw[af (fun a=>by cases a.2.1)];rfl
   |true =>
    cases l:e4 0 (ai (w.1.1-1)) list[k].1 with
    |false=>rw[af (fun a=>by cases a.2.2)];rfl
    |true =>
     by_cases d:z.length<60
     .rw[aH (show(z.length:Int)<60 by omega),ah ⟨d,rfl,rfl⟩,show acP w.1 list[k].2=Hy list[k].2 from ah g];rfl
     .rw[aK (show ¬(z.length:Int)<60 by omega),af (fun a=>d a.1)];rfl
  .rw[OK,aE,aa,aiA];rfl
def ajo {c:Int×Int}{r:aA}{a:Int}{m:ct}:(nn c r a m).1.1=r.1:=by unfold nn;split<;>rfl
def aB4 {c:Int×Int}{r:aA}{q:cE}:(vL c r q).1.1=r.1:=by
 have h:(written c r q).1.1=r.1:=acV;unfold vL;split
 .split
  .exact h
  .split
   .exact h
   .rw[ajo];exact h
 .rfl
def anr {c:Int×Int}{r:aA}{view:Int}{name:ByteArray}{a:Bool}:(gm c r view name a).1.1=r.1:=by
 unfold gm;split
 .rfl
 .split
  .split
   .exact aB4
   .rfl
  .split
   .rfl
   .exact ajo
def aEB {c:Int×Int}{r:aA}{name:ByteArray}:(own c r name).1.1=r.1:=by
 unfold own;split
 .rw[anr];rfl
 .rfl
def aB5 {r:aA}{b:cG}:(np r b).1=r.1:=by unfold np;split<;>rfl
def ac7 {c:Int×Int}{r:aA}{b:cG}:(ig c r b).1.1=r.1:=by
 have h:(lQ c (np r b) (BN c r b)).1.1=r.1:=by rw[acV,aB5]
 unfold ig F5;split
 .split
  .split
   .rw[aEB];exact h
   .rfl
  .exact h
 .rfl
def avl {c:Int×Int}{r:aA}{p:cE}:(nq c r p).1.1=r.1:=by
 unfold nq;split
 .rw[anr];rfl
 .rfl
def avm {imp:Bool}{c:Int×Int}{r:aA}{view:Int}{q:cE}{cC:Int}:(nr imp c r view q cC).1.1=r.1:=by
 have h:(written c r q).1.1=r.1:=acV;have b:∀(l:Bool) (a:aA),(Vx l a view q).1=a.1:=fun l a=>by unfold Vx;split<;>rfl
 unfold nr u7;split
 .split
  .split
   .rw[b];exact h
   .rfl
  .rw[b];exact h
 .rfl
def aB6 {imp:Bool}{c:Int×Int}{r:aA}{m:ct}:(El imp c r m).1.1=r.1:=by
 unfold El;split
 .exact ac7
 .split
  .exact avl
  .split
   .exact avm
   .rfl
def as9 {imp:Bool}{c:Int×Int}{r:aA}{m:ct}:(M9 imp c r m).1.1=r.1:=by
 unfold M9;split
 .exact aB6 (imp:=imp)
 .rfl
def aB7 {c:Int×Int}{r:aA}:(MC c r).1.1=r.1:=by
 unfold MC;split
 .rfl
 .split
  .split
   .rfl
   .rfl
  .split
   .rw[ajo];rfl
   .rfl
def afv {c:Int×Int}{r:aA}{m:ct}:∀(j k:Nat) (o:aA),o.1=r.1->(BM c r m j k o).1.1=r.1
 |0,_,_,h=>h|j+1,k,o,h=>by
  unfold BM;split
  .exact afv j (k+1) o h
  .split
   .exact afv j (k+1) _ (by rw[ajo];exact h)
   .rfl
def Pr (r:aA):aA:=(r.1,r.2.1,r.2.1,r.2.2.2)
def aT.Pr {c:Int×Int}{r:aA}(h:aT c r):aT c (Pr r):=by have a:=h.view;exact⟨⟨h.f.cf,h.f.i,h.f.v,by show e4 0 60 r.2.1=true;simp only[e4,aD,bV];omega,h.f.s,h.f.p,h.f.t,h.f.d,h.f.n,h.f.h⟩,h.b⟩
def ai0 (c:Int×Int)(r:aA):aA×Bool:=Wd c (Pr r) (au7 (ask c r).1)
def afw (c:Int×Int)(r:aA):aA×Int :=
 if (ask c r).2=true then (if (ai0 c r).2=true/\(ig c (ai0 c r).1 (ask c r).1).2=true then ((ig c (ai0 c r).1 (ask c r).1).1,0) else (r,4)) else (r,3)
def axq {c:Int×Int}{r:aA}(h:aT c r):aT c (ai0 c r).1:=h.Pr.aDv _
def aT.afw {c:Int×Int}{r:aA}(h:aT c r):aT c (afw c r).1:=by
 unfold Tryz.afw;split
 .split
  .exact(axq h).ann _
  .exact h
 .exact h
def aDA {c:Int×Int}{r:aA}:(afw c r).1.1=r.1:=by
 unfold afw;split
 .split
  .rw[ac7];exact afv _ _ _ rfl
  .rfl
 .rfl
def avn {c:Int×Int}{r:aA}(h:aT c r):Ho F0 c r=some ((afw c r).1,(afw c r).2,()):=by
 rw[aiS,aBZ h,ag,dK h.bt,ag];unfold afw;cases d:(ask c r).2 with
 |false=>rfl
 |true =>
  obtain⟨_,b,_,_⟩:=aB0 d;obtain⟨e,f⟩:=HV b;have g:zV F0 c (r.1,r.2.1,r.2.1,r.2.2.2) (1,0,(ask c r).1,(0,aj,[]),(0,aj,[]),0,0,0,0,0)=some ((ai0 c r).1,(ai0 c r).2,()):=as3 h.Pr (Z8 e f);dsimp only;rw[g,ag,Vw (axq h) b,ag,aG,aa,ah rfl];cases (ai0 c r).2 with
  |false=>rw[af (fun a=>by cases a.1)];rfl
  |true =>
   cases (ig c (ai0 c r).1 (ask c r).1).2 with
   |false=>rw[af (fun a=>by cases a.2)];rfl
   |true=>rw[ah ⟨rfl,rfl⟩];rfl
def E9 (c:Int×Int)(r:aA):Nat->aA×Int
 |0=>(r,3)|k+1=>if dk (r.2.2.2.2.2.1.getD k b5).2.1=true then E9 c r k
  else if (gm c r (r.2.2.2.2.2.1.getD k b5).1 (r.2.2.2.2.2.1.getD k b5).2.1 true).2=true then ((gm c r (r.2.2.2.2.2.1.getD k b5).1 (r.2.2.2.2.2.1.getD k b5).2.1 true).1,0) else (r,3)
def aqn (c:Int×Int)(r:aA):aA×Int:=E9 c r r.2.2.2.2.2.1.length
def avo {c:Int×Int}{r:aA}(h:aT c r):∀k,aT c (E9 c r k).1
 |0=>h|k+1=>by
  unfold E9;split
  .exact avo h k
  .split
   .exact h.as0 _ _ _
   .exact h
def aqo {c:Int×Int}{r:aA}:∀k,(E9 c r k).1.1=r.1
 |0=>rfl|k+1=>by
  unfold E9;split
  .exact aqo k
  .split
   .exact anr
   .rfl
def aqp {c:Int×Int}{r:aA}(h:aT c r):∀(k n:Nat),k<=r.2.2.2.2.2.1.length->k<n ->
  uz F0 (oC F0) n (oB ((k:Int)-1) c.1 c.2 r.1 r.2.1 r.2.2.1 r.2.2.2.1.1 r.2.2.2.1.2.1 r.2.2.2.1.2.2.1.1 r.2.2.2.1.2.2.1.2.1 r.2.2.2.1.2.2.1.2.2 r.2.2.2.1.2.2.2 r.2.2.2.2.1 r.2.2.2.2.2.1 r.2.2.2.2.2.2.1.1 r.2.2.2.2.2.2.1.2 r.2.2.2.2.2.2.2 0 0 0 0 0 0 aj aj 0 [] [] [] [] [])
   = some ((E9 c r k).1,(E9 c r k).2,())
 |0,n+1,b,d=>by rw[D0,aK (show ¬((0:Nat):Int)-1>=0 by omega),aa,WM];rfl
 |k+1,n+1,b,d=>by
  have a:k<r.2.2.2.2.2.1.length:=by omega
  have f:=h.f.l.t;have e:=Z9 h (r.2.2.2.2.2.1[k]).1 (h.l.tq _ (cy a)).1 true;rw[D0,show((k+1:Nat):Int)-1=(k:Int) by omega,aH (show(k:Int)>=0 by omega),ae,ao a,ad,bb a,JI];unfold E9;rw[aY a,show((r.2.2.2.2.2.1[k]).2.1.toList==aj.toList)=dk (r.2.2.2.2.2.1[k]).2.1 from rfl];cases g:dk (r.2.2.2.2.2.1[k]).2.1 with
  |true =>
   rw[ah rfl,aG,aa,aF (by omega) (by omega)];exact aqp h k n (by omega) (by omega)
  |false =>
   rw[af (by decide),dW,ae];refine AJ (ve (fun x=>Option.bind x _) e) ?_;rw[ag];cases (gm c r (r.2.2.2.2.2.1[k]).1 (r.2.2.2.2.2.1[k]).2.1 true).2 with
   |false=>rfl|true=>rw[JI];rfl
def ata {c:Int×Int}{r:aA}(h:aT c r):Dd F0 c r=some ((aqn c r).1,(aqn c r).2,()):=by have a:=h.f.l.t;rw[aeV,aF (by omega) (by omega)];exact aqp h r.2.2.2.2.2.1.length F0.n (bP _) (by rw[bH];omega)
def aDB (r:aA)(d:rV):aA:=(r.1,r.2.1,r.2.2.1,r.2.2.2.1,r.2.2.2.2.1,r.2.2.2.2.2.1,d,r.2.2.2.2.2.2.2)
def VB (r:aA)(keep:Int):aA:=aDB r (sJ r.2.2.2.2.2.2.1 keep)
def aqq (c:Int×Int)(r:aA)(keep:Int):aA:=aDr c (VB r keep)
def aT.VB {c:Int×Int}{r:aA}(h:aT c r)(keep:Int):aT c (VB r keep):=by
 have b:=am6 h.f.d keep;have d:=dn.1 h.f.d;have e:sJ r.2.2.2.2.2.2.1 keep=(r.2.2.2.2.2.2.1.1.take (Mx r.2.2.2.2.2.2.1 keep).toNat,Mx r.2.2.2.2.2.2.1 keep):=ah h.f.d;refine⟨⟨h.f.cf,h.f.i,h.f.v,h.f.a,h.f.s,h.f.p,h.f.t,?_,h.f.n,h.f.h⟩,?_⟩
 .show fk (sJ r.2.2.2.2.2.2.1 keep)=true;rw[e];refine dn.2 ⟨?_,?_,?_⟩
  .dsimp only;rw[bz];omega
  .dsimp only;omega
  .dsimp only;rw[bz];omega
 .show ∀x∈(sJ r.2.2.2.2.2.2.1 keep).1,_;rw[e];exact fun x a=>h.b x (ajr a)
def aae {c:Int×Int}(a:bq c=true):ch c rK=true:=by unfold ch eK WQ rK;simp only[a,e4];rfl
def aAm {c:Int×Int}{b:List Int}(a:bq c=true):ch c (pz c b).1=true:=by
 unfold pz;split
 .rename_i h;exact h.2.2
 .exact aae a
def avp {c:Int×Int}{b:List Int}(e:bq c=true):∀(f:Nat) (s:bU) (a:Nat),ch c s=true->ch c (JV c b f s a).1=true
 |0,_,_,h=>h|f+1,s,a,h=>by
  cases d:Vj c b a with
  |none=>rw[kg d];exact h
  |some z =>
   obtain⟨j,k⟩:=z;rw[Qt d];refine avp e f j k ?_;cases g:r4 b a with
   |none=>rw[Qs g]at d;cases d
   |some y =>
    obtain⟨v,l⟩:=y;rw[Qr g]at d;split at d
    .cases d
    .split at d
     .cases d
     .split at d
      .have i:=ve Prod.fst (eO d);dsimp only at i;rw[<-i];exact aAm e
      .cases d
def avq {c:Int×Int}(a:bq c=true)(b:List Int):ch c (lM c b).1=true:=avp a _ _ _ (aae a)
def aT.aFv {c:Int×Int}{r:aA}(h:aT c r):aT c (aDr c r):=by
 have b:=avq h.f.cf r.2.2.2.2.2.2.1.1;have d:=Vt c h.bt.d;have e:=dn.1 h.f.d;obtain⟨f,g,i,j⟩:=ey b;refine⟨⟨h.f.cf,h.f.i,?_,rfl,b,rfl,rfl,?_,aQ _,fun x a=>by cases a⟩,fun x a=>h.b x (ajr a)⟩
 .show e4 1 60 (am7 (lM c r.2.2.2.2.2.2.1.1).1)=true;simp only[e4,aD,bV];unfold am7 E8 vP
  repeat' split
  all_goals omega
 .show fk (r.2.2.2.2.2.2.1.1.take (lM c r.2.2.2.2.2.2.1.1).2,((lM c r.2.2.2.2.2.2.1.1).2:Int))=true;refine dn.2 ⟨?_,?_,?_⟩
  .dsimp only;rw[bz];omega
  .dsimp only;omega
  .dsimp only;rw[bz];omega
def aT.aqq {c:Int×Int}{r:aA}(h:aT c r)(keep:Int):aT c (aqq c r keep):=(h.VB keep).aFv
abbrev ed:=Int×Int×Int×ct
def aB8 (imp:Bool)(c:Int×Int)(r:aA)(m:ct):aA×Int:=if (M9 imp c r m).2=true/\m.1=4 then ((M9 imp c r m).1,0) else (r,3)
def ai1 (imp:Bool)(c:Int×Int)(r:aA)(d:ed):aA×Int :=
 if d.1=1 then afw c r else if d.1=6 then aqn c r else if d.1=7 then (if (MC c r).2=true then ((MC c r).1,0) else (r,3)) else if d.1=8 then (aqq c r d.2.2.1,0) else aB8 imp c r d.2.2.2
def aT.ai1 {c:Int×Int}{r:aA}(h:aT c r)(imp:Bool)(d:ed):aT c (ai1 imp c r d).1:=by
 unfold Tryz.ai1;split
 .exact h.afw
 .split
  .exact avo h _
  .split
   .split
    .exact h.aFu
    .exact h
   .split
    .exact h.aqq _
    .unfold aB8;split
     .exact h.heard _ _
     .exact h
def aDC {imp:Bool}{c:Int×Int}{r:aA}{d:ed}:(ai1 imp c r d).1.1=r.1:=by
 unfold ai1;split
 .exact aDA
 .split
  .exact aqo _
  .split
   .split
    .exact aB7
    .rfl
   .split
    .rfl
    .unfold aB8;split
     .exact as9
     .rfl
def avr {c:Int×Int}{r:aA}(h:aT c r){d:ed}(j:fc d.2.2.2):Hp F0 c r d=some ((ai1 true c r d).1,(ai1 true c r d).2,()):=by
 have k:O8 F0 c (r.1,r.2.1,r.2.2.1,r.2.2.2.1,r.2.2.2.2.1,r.2.2.2.2.2.1,sJ r.2.2.2.2.2.2.1 d.2.2.1,r.2.2.2.2.2.2.2)=some (aqq c r d.2.2.1,()):=aAa (h.VB d.2.2.1).bt (h.VB d.2.2.1).ok;rw[aiW,dK h.bt,ag,avn h,ag,ata h,ag,aAg h,ag,au0 h.bt.d.1,ag,aql h j,ag];dsimp only;rw[k,ag];unfold ai1;by_cases a:d.1=1
 .rw[bc.2 a,ae,ah a]
 .rw[bR.2 a,aa,af a];by_cases b:d.1=6
  .rw[bc.2 b,ae,ah b]
  .rw[bR.2 b,aa,af b];by_cases e:d.1=7
   .rw[bc.2 e,ae,ah e];cases (MC c r).2<;>rfl
   .rw[bR.2 e,aa,af e];by_cases f:d.1=8
    .rw[bc.2 f,ae,ah f]
    .rw[bR.2 f,aa,af f];unfold aB8;cases (M9 true c r d.2.2.2).2 with
     |false=>rw[af (fun i=>by cases i.1)];rfl
     |true =>
      by_cases g:d.2.2.2.1=4
      .rw[ah ⟨rfl,g⟩,bc.2 g];rfl
      .rw[af (fun i=>g i.2),bR.2 g];rfl
def Di:ak:=((0,0),[],[],[],[])
def aqr (c:Int×Int)(x:nk):Prop:=dH x.2/\(rU c x.2).2=true/\e4 0 (ai (c.1-1)) x.1=true
def avs (c:Int×Int)(x:dG):Prop:=e4 0 (ai (c.1-1)) x.2.2=true/\bw x.2.1.data.toList=true/\aZ x.2.1.data.toList=x.1
structure aJ (w:ak):Prop where
 c:bq w.1=true
 l:lI w.1.1 w.2.1=true
 lf:(w.2.1.length:Int)<=BG w.1
 n:(w.2.2.1.length:Int)=w.1.1
 g:∀r∈w.2.2.1,aT w.1 r
 id:∀(k:Nat) (h:k<w.2.2.1.length),(w.2.2.1[k]).1=(k:Int)
 nl:w.2.2.2.1.length<=60
 nb:∀x∈w.2.2.2.1,aqr w.1 x
 sl:w.2.2.2.2.length<=300
 sb:∀x∈w.2.2.2.2,avs w.1 x
def aJ.le7 {w:ak}(h:aJ w):4<=w.2.2.1.length/\w.2.2.1.length<=7:=by have:=b4 h.c;have:=h.n;omega
def aJ.liars {w:ak}(h:aJ w):w.2.1.length<=7:=by have a:=b4 h.c;have:=afk h.l;omega
def axr {c:Int×Int}{x:dG}(h:avs c x):x.2.1.size<=1048576:=cj (lP h.2.1) (by omega)
def aJ.w {w:ak}(h:aJ w):M7 w :=
 ⟨⟨by have:=h.liars;omega,by have:=h.le7;omega,fun x a=>(h.g x a).l,by have:=h.nl;omega,fun x a=>(h.nb x a).1,by have:=h.sl;omega,fun x a=>axr (h.sb x a)⟩,fun r b=>(h.g r b).bt.d⟩
def HW {U:Type}{l:List U}{k:Nat}(h:k<l.length)(d:U):l.getD k d=l[k]:=aY h d
def aJ.ok {w:ak}(h:aJ w):oG w=true:=by
 unfold oG amM Hv rJ;simp only[aD,afD,aqA,QH,hD,il];refine⟨h.c,h.l,by have:=h.lf;omega,h.n,by have:=h.nl;omega,by have:=h.sl;omega,fun k a=>?_,fun k a=>?_,fun k a=>?_⟩
 .unfold amL;rw[HW a,aD,bc];exact⟨(h.g _ (cy a)).ok,h.id k a⟩
 .unfold ZU;rw[HW a,aD];exact(h.nb _ (cy a)).2
 .unfold ZV;rw[HW a,aD,aD,bc];exact h.sb _ (cy a)
def aJ.of {w:ak}(h:oG w=true)(e:∀x∈w.2.2.2.1,dH x.2)(f:∀r∈w.2.2.1,∀x∈r.2.2.2.2.2.2.1.1,0<=x/\x<=255):aJ w:=by
 unfold oG amM Hv rJ at h;simp only[aD,afD,aqA,QH,hD,il]at h;obtain⟨g,i,o,j,p,q,l,m,n⟩:=h;have c:∀k (a:k<w.2.2.1.length),oF w.1 w.2.2.1[k]=true/\(w.2.2.1[k]).1=(k:Int):=fun k a=>by have:=l k a;unfold amL at this;rw[HW a,aD,bc]at this;exact this
 refine⟨g,i,by omega,j,fun r d=>?_,fun k a=>(c k a).2,by omega,fun x b=>?_,by omega,fun x b=>?_⟩
 .obtain⟨k,a,rfl⟩:=afB d;exact⟨BL.1 (c k a).1,f _ d⟩
 .obtain⟨k,a,rfl⟩:=afB b;have:=m k a;unfold ZU at this;rw[HW a,aD]at this;exact⟨e _ b,this⟩
 .obtain⟨k,a,rfl⟩:=afB b;have:=n k a;unfold ZV at this;rw[HW a,aD,aD,bc]at this;exact this
def b9 (w:ak)(a:Int):aA:=w.2.2.1.getD a.toNat amK
def lR (w:ak)(a:Int)(r:aA):ak:=(w.1,w.2.1,w.2.2.1.set a.toNat r,w.2.2.2)
def axs {w:ak}{a:Int}(b:0<=a)(c:a<w.2.2.1.length):b9 w a∈w.2.2.1:=by unfold b9;rw[aY (show a.toNat<w.2.2.1.length by omega)];exact cy _
def aJ.rep {w:ak}(h:aJ w){a:Int}(b:0<=a)(c:a<w.2.2.1.length):aT w.1 (b9 w a)/\(b9 w a).1=a:=by refine⟨h.g _ (axs b c),?_⟩;unfold b9;rw[aY (show a.toNat<w.2.2.1.length by omega),h.id _ (show a.toNat<w.2.2.1.length by omega)];omega
def aJ.lR {w:ak}(h:aJ w){a:Int}(i:0<=a){r:aA}(d:aT w.1 r)(hi:r.1=a):aJ (lR w a r):=by
 refine⟨h.c,h.l,h.lf,by show((w.2.2.1.set a.toNat r).length:Int)=_;rw[Nd];exact h.n,fun x b=>?_,fun k f=>?_,h.nl,h.nb,h.sl,h.sb⟩
 .rcases List.mem_or_eq_of_mem_set b with b|rfl
  .exact h.g x b
  .exact d
 .have c:k<(w.2.2.1.set a.toNat r).length:=f;have g:((w.2.2.1.set a.toNat r)[k]'c).1=(k:Int):=by
   rw[List.getElem_set];split
   .rename_i e;rw[hi];omega
   .exact h.id k (by rw[Nd]at c;exact c)
  exact g
def ay8 {c:Int×Int}{q:cE}(d:bw q.2.1.data.toList=true)(e:q.2.1.data.toList≠[]->aZ q.2.1.data.toList=q.1){id:Int}(hi:e4 0 (ai (c.1-1)) id=true):∀x∈YH id q,avs c x:=by
 intro x a;unfold YH at a;cases b:dk q.2.1 with
 |true=>rw[b,ah rfl]at a;cases a
 |false =>
  rw[b,af (by decide)]at a;split at a
  .rw[ki.1 a];refine⟨hi,d,e fun f=>?_⟩;rw[(JX _).2 f]at b;cases b
  .cases a
def aB9 {c:Int×Int}{m:ct}(e:dp c m=true){id:Int}(hi:e4 0 (ai (c.1-1)) id=true):∀x∈c7 id m,avs c x:=by
 have a:=ac3 e;have b:∀q:cE,eK c q=true->∀x∈YH id q,avs c x:=fun q f=>by obtain⟨_,g,h,_⟩:=Z2 f;exact ay8 g (fun _=>h) hi
 rcases a.k with k|k|k|k
 .have d:=a.b k;simp only[fm,aD]at d;unfold c7;rw[af (by omega),af (by omega),ah k];exact b _ d.1
 .obtain⟨_,_,_,_,_,i,j⟩:=acL (a.p k).1;unfold c7;rw[af (by omega),ah k];exact ay8 i j hi
 .unfold c7;rw[af (by omega),af (by omega),af (by omega)];exact b _ (a.v k).2.1
 .unfold c7;rw[ah k];exact fun x l=>by cases l
def axt {l:List dG}{y x:dG}(h:x∈JZ l y):x∈l\/x=y:=by
 unfold JZ at h;split at h
 .rcases kj.1 h with h|h
  .exact .inl h
  .exact .inr (ki.1 h)
 .exact .inl h
def ans:∀{ys l:List dG} {x:dG},x∈ys.foldl JZ l->x∈l\/x∈ys
 |[],_,_,h=>.inl h|y::ys,l,x,h=>by
  rcases ans (ys:=ys) h with h|h
  .rcases axt h with h|rfl
   .exact .inl h
   .exact .inr J5
  .exact .inr (rL _ h)
def ag2 {id:Int}:∀{ps:List kr} {l:List dG} {x:dG},x∈as8 id ps l->x∈l\/∃p∈ps,x∈c7 id p.2
 |[],_,_,h=>.inl h|p::ps,l,x,h=>by
  rcases ag2 (ps:=ps) h with h|⟨q,a,h⟩
  .rcases ans h with h|h
   .exact .inl h
   .exact .inr ⟨p,J5,h⟩
  .exact .inr ⟨q,rL _ a,h⟩
def j3 {w:ak}{id:Int}(h:id∈b8 w):0<=id/\id<w.2.2.1.length:=by have:=aff w.2.1 w.2.2.1.length id h;exact this
def aJ.e4 {w:ak}(h:aJ w){a:Int}(c:0<=a)(d:a<w.2.2.1.length):e4 0 (ai (w.1.1-1)) a=true:=by have b:=b4 h.c;have e:=h.n;rw[Vd b.1 b.2.1];simp only[Tryz.e4,aD,bV];omega
def aJ.axu {w:ak}(h:aJ w){a:Int}(b:Tryz.e4 0 (ai (w.1.1-1)) a=true):0<=a/\a<w.2.2.1.length:=by have c:=b4 h.c;have d:=h.n;rw[Vd c.1 c.2.1]at b;simp only[Tryz.e4,aD,bV]at b;omega
def aJ.Aj {w:ak}(h:aJ w)(id:Int){list:List kr}(d:∀p∈list,dp w.1 p.2=true):aJ (Aj w id list):=by
 unfold Tryz.Aj;by_cases b:id∈b8 w
 .rw[ah b];have c:=j3 b;refine⟨h.c,h.l,h.lf,h.n,h.g,h.id,h.nl,h.nb,agZ id h.sl,fun x a=>?_⟩;rcases ag2 a with a|⟨p,e,a⟩
  .exact h.sb x a
  .exact aB9 (d p e) (h.e4 c.1 c.2) x a
 .rw[af b];exact h
def aqs {c:Int×Int}{m:ct}(h:dp c m=true){a:Int}(b:e4 0 (ai (c.1-1)) a=true):aqr c (a,Hy m):=by have d:=am1 h;exact⟨⟨by dsimp only;omega,d.2.1⟩,by rw[az3 h],b⟩
def ant {c:Int×Int}:∀{ps:List kr} {l:List nk} {x:nk},x∈axp c ps l->x∈l\/aqr c x
 |[],_,_,h=>.inl h|p::ps,l,x,h=>by
  rcases ant (ps:=ps) h with h|h
  .unfold ag0 at h;split at h
   .rename_i a;rcases kj.1 h with h|h
    .exact .inl h
    .rw[ki.1 h];exact .inr (aqs a.2.1 a.2.2)
   .exact .inl h
  .exact .inr h
def anu {c:Int×Int}:∀{ps:List kr} {l:List nk},l.length<=60->(axp c ps l).length<=60
 |[],_,h=>h|p::ps,l,h=>anu (ps:=ps) (afu h p)
def aJ.send {w:ak}(h:aJ w)(list:List kr):aJ (ac6 w list) :=
 ⟨h.c,h.l,h.lf,h.n,h.g,h.id,anu h.nl,fun x a=>(ant a).elim (h.nb x) (fun h=>h),h.sl,h.sb⟩
def aJ.aaf {w:ak}(h:aJ w){a:List nk}(b:a.length<=60)(c:∀x∈a,aqr w.1 x):aJ (w.1,w.2.1,w.2.2.1,a,w.2.2.2.2) :=
 ⟨h.c,h.l,h.lf,h.n,h.g,h.id,b,c,h.sl,h.sb⟩
def aT.axv {c:Int×Int}{r:aA}(h:aT c r):∀p∈r.2.2.2.2.2.2.2,dp c p.2=true:=fun p a=>au6 (h.f.h p a)
def aT.aD4 {c:Int×Int}{r:aA}(h:aT c r):∀p∈r.2.2.2.2.2.2.2,fc p.2:=fun p a=>asX (h.axv p a)
def Good (w:ak):Prop:=M7 w/\(oG w=true->aJ w)
def aJ.axw {w:ak}(h:aJ w):Good w:=⟨h.w,fun _=>h⟩
def aJ.aD5 {w:ak}(h:aJ w){a:List nk}(f:a.length<=61)(c:∀x∈a,aqr w.1 x):Good (w.1,w.2.1,w.2.2.1,a,w.2.2.2.2) :=
 ⟨⟨⟨h.w.l.l,h.w.l.r,h.w.l.rl,by show a.length<=_;omega,fun x b=>(c x b).1,h.w.l.s,h.w.l.st⟩,h.w.b⟩,fun d=>aJ.of d (fun x b=>(c x b).1) fun r e=>(h.g r e).b⟩
def HD {w:ak}{a:Int}(c:0<=a)(e:a<w.2.2.1.length)(d:aA):ay w.2.2.1 a d=b9 w a:=by
 have b:a.toNat<w.2.2.1.length:=by omega
 unfold b9;rw[aY b];exact aY b d
def ay9 (l:List dG)(id:Int)(list:List kr):Bool:=list.all fun p=>(c7 id p.2).all fun x=>iN l x.1 x.2.1 x.2.2
def bK (w:ak)(a:Int):List kr:=(b9 w a).2.2.2.2.2.2.2
def Ps (w:ak)(a:Int):ak:=lR (Aj w a (bK w a)) a (ac0 (b9 w a))
def aqt (w:ak)(a:Int):ak×Int :=
 if ay9 (Aj w a (bK w a)).2.2.2.2 a (bK w a)=true then (if w.2.2.2.1.length+(bK w a).length<=60 then (ac6 (Ps w a) (bK w a),0) else (w,4)) else (w,4)
def anv (w:ak)(id:Int)(list:List kr):(Aj w id list).1=w.1/\(Aj w id list).2.2.1=w.2.2.1/\(Aj w id list).2.2.2.1=w.2.2.2.1:=by unfold Aj;split<;>exact⟨rfl,rfl,rfl⟩
def aJ.Ps {w:ak}(h:aJ w){a:Int}(b:0<=a)(d:a<w.2.2.1.length):aJ (Ps w a):=by obtain⟨c,f⟩:=h.rep b d;have g:=h.Aj a (list:=bK w a) c.axv;have e:=(anv w a (bK w a)).1;exact g.lR b (by rw[e];exact c.ac0) f
def atb {w:ak}(h:aJ w){a:Int}(c:0<=a)(i:a<w.2.2.1.length):CX F0 w a=some ((aqt w a).1,(aqt w a).2,()):=by
 obtain⟨f,D⟩:=h.rep c i;have j:=f.aD4;have E:(bK w a).length<=30:=f.f.n;have o:=h.Aj a (list:=bK w a) f.axv;have u:=as1 f;have v:=axo h.w h.sl a (list:=bK w a) (by omega) j;have q:=(anv w a (bK w a)).2.1;have d:=h.Ps c i;rw[aey,kx c (by omega),ad,HD c i,u,ag];refine AJ (ve (fun x=>Option.bind x _) v) ?_;rw[ag];dsimp only;generalize y:ac0 (b9 w a)=S;generalize r:Aj w a (bK w a)=O at o q d;have z:∀n,eX F0 (.exit 0) (uZ a w.1.1 w.1.2 w.2.1 w.2.2.1 w.2.2.2.1 w.2.2.2.2 0 0 S.1 S.2.1 S.2.2.1 S.2.2.2.1.1 S.2.2.2.1.2.1 S.2.2.2.1.2.2.1.1 S.2.2.2.1.2.2.1.2.1 S.2.2.2.1.2.2.2 S.2.2.2.2.2.2.1.2 O.1.1 O.1.2 (bK w a) [] [] [] [] S.2.2.2.1.2.2.1.2.2 S.2.2.2.2.1 S.2.2.2.2.2.1 S.2.2.2.2.2.2.1.1 S.2.2.2.2.2.2.2 O.2.1 O.2.2.1 O.2.2.2.1 O.2.2.2.2)=(fun _:Nat=>some (if w.2.2.2.1.length+(bK w a).length<=60 then (ac6 (Ps w a) (bK w a),(0:Int),()) else (w,4,()))) n:=fun n=>by
  have s:lR O a S=Ps w a:=by unfold Ps;rw[r,y]
  rw[<-s]at d;have A:OL F0 ((O.1.1,O.1.2),O.2.1,O.2.2.1.set a.toNat (S.1,S.2.1,S.2.2.1,(S.2.2.2.1.1,S.2.2.2.1.2.1,(S.2.2.2.1.2.2.1.1,S.2.2.2.1.2.2.1.2.1,S.2.2.2.1.2.2.1.2.2),S.2.2.2.1.2.2.2),S.2.2.2.2.1,S.2.2.2.2.2.1,(S.2.2.2.2.2.2.1.1,S.2.2.2.2.2.2.1.2),S.2.2.2.2.2.2.2),O.2.2.2.1,O.2.2.2.2) (bK w a)=some (ac6 (lR O a S) (bK w a),()):=by have:=aAl d.w d.nl (list:=bK w a) (by omega) j;rw[d.ok,ah rfl]at this;exact this
  have F:=h.nl;rw[WH,aF (by omega) (by omega),kx c (by rw[q];omega),ad,A,ag];by_cases t:w.2.2.2.1.length+(bK w a).length<=60
  .rw[aK (show ¬(w.2.2.2.1.length:Int)+(bK w a).length>60 by omega),aa];dsimp only;rw[ah t,s]
  .rw[aH (show(w.2.2.2.1.length:Int)+(bK w a).length>60 by omega),ae];dsimp only;rw[af t]
 have B:=kf (fun n k=>na F0 (eX F0) n (jW a ((bK w a).length:Int) k w.1.1 w.1.2 w.2.1 w.2.2.1 w.2.2.2.1 w.2.2.2.2 0 0 S.1 S.2.1 S.2.2.1 S.2.2.2.1.1 S.2.2.2.1.2.1 S.2.2.2.1.2.2.1.1 S.2.2.2.1.2.2.1.2.1 S.2.2.2.1.2.2.2 S.2.2.2.2.2.2.1.2 O.1.1 O.1.2 (bK w a) [] [] [] [] S.2.2.2.1.2.2.1.2.2 S.2.2.2.2.1 S.2.2.2.2.2.1 S.2.2.2.2.2.2.1.1 S.2.2.2.2.2.2.2 O.2.1 O.2.2.1 O.2.2.2.1 O.2.2.2.2)) (bK w a).length
  (fun k=>(c7 a ((bK w a).getD k asE).2).all fun x=>iN O.2.2.2.2 x.1 x.2.1 x.2.2) (some (if w.2.2.2.1.length+(bK w a).length<=60 then (ac6 (Ps w a) (bK w a),(0:Int),()) else (w,4,()))) (some (w,4,()))
  (fun n k e=>?_) (fun n=>?_) F0.n (by rw[bH];omega)
 .refine AJ B ?_;rw[JN (bK w a) (fun p=>(c7 a p.2).all fun x=>iN O.2.2.2.2 x.1 x.2.1 x.2.2) asE];unfold aqt ay9;rw[r];cases ((bK w a).all fun p=>(c7 a p.2).all fun x=>iN O.2.2.2.2 x.1 x.2.1 x.2.2) with
  |false=>rfl
  |true =>
   rw[ah rfl,ah rfl];split<;>rfl
 .have G:=aac a ((bK w a)[k]).2;rw[DS,aO e,ae,ao e,ad,bb e,agY (j _ (cy e)),ag,aY e];have C:=kf (fun m b=>ue F0 (ow F0 (eX F0) n) m (ov a ((bK w a).length:Int) (k:Int) ((c7 a ((bK w a)[k]).2).length:Int) b w.1.1 w.1.2 w.2.1 w.2.2.1 w.2.2.2.1 w.2.2.2.2 0 0 S.1 S.2.1 S.2.2.1 S.2.2.2.1.1 S.2.2.2.1.2.1 S.2.2.2.1.2.2.1.1 S.2.2.2.1.2.2.1.2.1 S.2.2.2.1.2.2.2 S.2.2.2.2.2.2.1.2 O.1.1 O.1.2 (bK w a) (c7 a ((bK w a)[k]).2) [] [] [] [] S.2.2.2.1.2.2.1.2.2 S.2.2.2.2.1 S.2.2.2.2.2.1 S.2.2.2.2.2.2.1.1 S.2.2.2.2.2.2.2 O.2.1 O.2.2.1 O.2.2.2.1 O.2.2.2.2)) (c7 a ((bK w a)[k]).2).length
   (fun b=>(fun x:dG=>iN O.2.2.2.2 x.1 x.2.1 x.2.2) ((c7 a ((bK w a)[k]).2).getD b ZT)) (na F0 (eX F0) n (jW a ((bK w a).length:Int) ((k+1:Nat):Int) w.1.1 w.1.2 w.2.1 w.2.2.1 w.2.2.2.1 w.2.2.2.2 0 0 S.1 S.2.1 S.2.2.1 S.2.2.2.1.1 S.2.2.2.1.2.1 S.2.2.2.1.2.2.1.1 S.2.2.2.1.2.2.1.2.1 S.2.2.2.1.2.2.2 S.2.2.2.2.2.2.1.2 O.1.1 O.1.2 (bK w a) [] [] [] [] S.2.2.2.1.2.2.1.2.2 S.2.2.2.2.1 S.2.2.2.2.2.1 S.2.2.2.2.2.2.1.1 S.2.2.2.2.2.2.2 O.2.1 O.2.2.1 O.2.2.2.1 O.2.2.2.2)) (some (w,4,()))
   (fun m b g=>?_) (fun m=>?_) F0.n (by rw[bH];omega)
  .refine AJ C ?_;rw[JN (c7 a ((bK w a)[k]).2) (fun x:dG=>iN O.2.2.2.2 x.1 x.2.1 x.2.2) ZT]
  .have H:=o.sl;rw[DR,aO g,ae,ao g,ad,bb g,BO (by omega),ag,ZA,ZB,al (by omega),aY g];rcases Bool.eq_false_or_eq_true (iN O.2.2.2.2 (c7 a ((bK w a)[k]).2)[b].1 (c7 a ((bK w a)[k]).2)[b].2.1 (c7 a ((bK w a)[k]).2)[b].2.2) with l|l
   .simp only[l,aG,aa,fE]
   .simp only[l,dW,ae];rfl
  .rw[DR,aE,aa,WG,al (by omega)]
 .rw[DS,aE,aa];exact z n
def aag (a:List nk)(k:Nat):List nk:=a.take k++a.drop (k+1)
def dS (w:ak)(a:Int):nk:=w.2.2.2.1.getD a.toNat awQ
def aaf (w:ak)(a:List nk):ak:=(w.1,w.2.1,w.2.2.1,a,w.2.2.2.2)
def Sw (w:ak)(a:Int):ak:=aaf w (aag w.2.2.2.1 a.toNat)
def anw (imp:Bool)(w:ak)(x:nk):aA:=(M9 imp w.1 (b9 w x.1) (rU w.1 x.2).1).1
def aqu (imp:Bool)(w:ak)(a:Int):ak:=if (dS w a).1∈b8 w then lR (Sw w a) (dS w a).1 (anw imp w (dS w a)) else Sw w a
def axx (w:ak)(d:ed):ak×Int :=
 if d.1=3 then (aqu true w d.2.1,0) else if d.1=4 then (Sw w d.2.1,0) else if d.1=5 then (aaf w (w.2.2.2.1++[dS w d.2.1]),0)
 else if Na w.1 w.2.1 w.2.2.2.2 d.2.2.2=true then (aaf w (w.2.2.2.1++[(d.2.1,Hy d.2.2.2)]),0) else (w,5)
def axy {a:List nk}{k:Nat}{x:nk}(h:x∈aag a k):x∈a:=by
 rcases kj.1 h with h|h
 .exact ajr h
 .exact avR h
def axz (a:List nk)(k:Nat):(aag a k).length<=a.length:=by unfold aag;rw[aL,bz,a1];omega
def aJ.Sw {w:ak}(h:aJ w)(a:Int):aJ (Sw w a):=h.aaf (cj (axz _ _) h.nl) fun x b=>h.nb x (axy b)
def aJ.aqu {w:ak}(h:aJ w)(imp:Bool)(a:Int):aJ (aqu imp w a):=by
 unfold Tryz.aqu;split
 .rename_i c;have b:=j3 c;obtain⟨d,hid⟩:=h.rep b.1 b.2;exact(h.Sw a).lR b.1 (d.heard imp _) (by unfold anw;rw[as9];exact hid)
 .exact h.Sw a
def aJ.aDD {w:ak}(h:aJ w){a:Int}(b:0<=a)(c:a<w.2.2.2.1.length):aqr w.1 (dS w a):=by refine h.nb _ ?_;unfold dS;rw[aY (show a.toNat<w.2.2.2.1.length by omega)];exact cy _
def avt {c:Int×Int}{b:List Int}(h:(rU c b).2=true):fc (rU c b).1/\dp c (rU c b).1=true:=by
 have:dp c (rU c b).1=true:=by
  unfold rU fin at h ⊢;split at h
  .rename_i a;rw[ah a];exact a.2.2
  .cases h
 exact⟨asX this,this⟩
def ag3 {w:ak}(h:aJ w){d:ed}(i:fc d.2.2.2)(l:d.1=3\/d.1=4\/d.1=5->0<=d.2.1/\d.2.1<w.2.2.2.1.length):mD F0 w d=some ((axx w d).1,(axx w d).2,()):=by
 have r:=h.nl;have hlen:=pA w;have s:=h.le7;rw[aiM,kh h.w,ag];dsimp only;unfold axx;by_cases k:d.1=3\/d.1=4\/d.1=5
 .obtain⟨f,j⟩:=l k;have b:=h.aDD f j;obtain⟨m,t⟩:=avt b.2.1;have n:ai (d.2.1+1)=d.2.1+1:=aF (by omega) (by omega);have o:(d.2.1+1).toNat=d.2.1.toNat+1:=by omega
  have ex:∀a:nk,ay w.2.2.2.1 d.2.1 a=dS w d.2.1:=fun a=>by
   unfold dS;have c:d.2.1.toNat<w.2.2.2.1.length:=by omega
   rw[aY c];show w.2.2.2.1.getD d.2.1.toNat a=_;exact aY c a
  obtain⟨t0,t1⟩:=h.axu b.2.2;obtain⟨p,hid⟩:=h.rep t0 t1;have q:∀a:aA,HO F0 w.1 (ay w.2.2.1 (dS w d.2.1).1 a) (rU w.1 (dS w d.2.1).2).1=some ((M9 true w.1 (b9 w (dS w d.2.1).1) (rU w.1 (dS w d.2.1).2).1).1,(M9 true w.1 (b9 w (dS w d.2.1).1) (rU w.1 (dS w d.2.1).2).1).2,()):=fun a=>by
   have c:(dS w d.2.1).1.toNat<w.2.2.1.length:=by omega
   have:ay w.2.2.1 (dS w d.2.1).1 a=b9 w (dS w d.2.1).1:=by unfold b9;rw[aY c];exact aY c a
   rw[this];exact aql p m
  rw[kx f j,ad,n,amV f (by omega) (by omega),ad,ad,ad,ex,amJ b.1,ag,b.2.1,ae,Mo h.w.l,ag,eF (by dsimp only;omega),ag,kx t0 t1,ad,q,ag,acO b.1.1,ag,av (by omega) (by omega) (by first|omega|(simp only[aL,aV,ba];omega)|(rw[a1,bz];omega)),ad];dsimp only;rw[ad,o];rcases k with k|k|k
  .rw[bc.2 k,ae,ah k];unfold aqu;by_cases e:(dS w d.2.1).1∈b8 w
   .rw[aH e,ae,ah e];rfl
   .rw[aK e,aa,af e];rfl
  .rw[bR.2 (show d.1≠3 by omega),aa,bc.2 k,ae,af (by omega),ah k];rfl
  .rw[bR.2 (show d.1≠3 by omega),aa,bR.2 (show d.1≠4 by omega),aa,bc.2 k,ae,af (by omega),af (by omega),ah k];rfl
 .have u:=h.liars;have v:=h.sl;rw[bR.2 (show d.1≠3 by omega),aa,bR.2 (show d.1≠4 by omega),aa,bR.2 (show d.1≠5 by omega),aa,af (by omega),af (by omega),af (by omega),avk (by omega) (by omega) i,ag,YC i,ag,av (by omega) (by omega) (by first|omega|(simp only[aL,aV,ba];omega)|(rw[a1,bz];omega)),ad];cases g:Na w.1 w.2.1 w.2.2.2.2 d.2.2.2 with
  |false=>rfl
  |true =>
   have cU:dp w.1 d.2.2.2=true:=by unfold Na at g;rw[aD]at g;exact g.1
   dsimp only;rw[show acP w.1 d.2.2.2=Hy d.2.2.2 from ah cU];rfl
def ME (d:ed):Bool:=(d.1==3) || ((d.1==4) || (d.1==5))
def ih {d:ed}:ME d=true↔d.1=3\/d.1=4\/d.1=5:=by simp[ME]
def QE (w:ak)(d:ed):Bool :=
 if ME d=true then e4 0 (ai ((w.2.2.2.1.length:Int)-1)) d.2.1 else if d.1=10 then e4 0 (ai (w.1.1-1)) d.2.1 else decide (d.2.1∈b8 w)
def Pt {w:ak}{d:ed}(h:ME d=true):QE w d=e4 0 (ai ((w.2.2.2.1.length:Int)-1)) d.2.1:=ah h
def afx {w:ak}{d:ed}(h:¬ME d=true)(a:d.1=10):QE w d=e4 0 (ai (w.1.1-1)) d.2.1:=by unfold QE;rw[af h,ah a]
def Pu {w:ak}{d:ed}(h:¬ME d=true)(a:¬d.1=10):QE w d=decide (d.2.1∈b8 w):=by unfold QE;rw[af h,af a]
def avu {w:ak}(h:aJ w)(d:ed):G6 F0 w d=some (QE w d,()):=by
 have hlen:=pA w;have i:=h.le7;rw[ais,bM,ag,bM,ag,Mo h.w.l,ag,eF (by dsimp only;omega),ag];by_cases a:d.1=3
 .rw[bc.2 a,ae,Pt (ih.2 (.inl a))]
 .rw[bR.2 a,aa];by_cases b:d.1=4
  .rw[bc.2 b,ae,Pt (ih.2 (.inr (.inl b)))]
  .rw[bR.2 b,aa];by_cases c:d.1=5
   .rw[bc.2 c,ae,Pt (ih.2 (.inr (.inr c)))]
   .have g:¬ME d=true:=fun f=>(ih.1 f).elim a (fun f=>f.elim b c)
    rw[bR.2 c,aa];by_cases e:d.1=10
    .rw[bc.2 e,ae,afx g e]
    .rw[bR.2 e,aa,Pu g e]
def atc (imp:Bool)(w:ak)(d:ed):ak×Int:=(lR w d.2.1 (ai1 imp w.1 (b9 w d.2.1) d).1,(ai1 imp w.1 (b9 w d.2.1) d).2)
def aAn (w:ak)(d:ed):ak×Int:=if d.1=2 then aqt w d.2.1 else if ME d=true\/d.1=10 then axx w d else atc true w d
def aCa (w:ak)(x:ak×Int):ak×Int:=if x.2=0 then (if oG x.1=true then (x.1,0) else (w,4)) else (w,x.2)
def doI (w:ak)(d:ed):ak×Int:=if e4 1 10 d.1=true then (if QE w d=true then aCa w (aAn w d) else (w,2)) else (Di,1)
def Wj {w:ak}(h:aJ w){a:Int}(b:e4 0 (ai ((w.2.2.2.1.length:Int)-1)) a=true):0<=a/\a<w.2.2.2.1.length:=by have c:=h.nl;rw[aF (by omega) (by omega)]at b;simp only[e4,aD,bV]at b;omega
def aJ.atc {w:ak}(h:aJ w)(imp:Bool){d:ed}(a:0<=d.2.1)(b:d.2.1<w.2.2.1.length):aJ (atc imp w d).1:=by obtain⟨c,e⟩:=h.rep a b;exact h.lR a (c.ai1 imp d) (by rw[aDC];exact e)
def aza {w:ak}(h:aJ w){a:Int}(b:0<=a)(c:a<w.2.2.1.length):aJ (aqt w a).1:=by
 unfold aqt;split
 .split
  .exact(h.Ps b c).send _
  .exact h
 .exact h
def Wk {w:ak}(h:aJ w){d:ed}(f:ME d=true->0<=d.2.1/\d.2.1<w.2.2.2.1.length)(g:¬ME d=true->e4 0 (ai (w.1.1-1)) d.2.1=true):Good (axx w d).1:=by
 have m:=h.nl;unfold axx;split
 .exact(h.aqu true _).axw
 .split
  .exact(h.Sw _).axw
  .split
   .rename_i b;obtain⟨i,j⟩:=f (ih.2 (.inr (.inr b)));refine h.aD5 (by rw[aL,dr];omega) fun x a=>?_
    rcases kj.1 a with a|a
    .exact h.nb x a
    .rw[ki.1 a];exact h.aDD i j
   .split
    .rename_i k l b c;have cU:dp w.1 d.2.2.2=true:=by unfold Na at c;rw[aD]at c;exact c.1
     refine h.aD5 (by rw[aL,dr];omega) fun x a=>?_
     rcases kj.1 a with a|a
     .exact h.nb x a
     .rw[ki.1 a];exact aqs cU (g fun e=>(ih.1 e).elim k (fun e=>e.elim l b))
    .exact h.axw
def aCb {w:ak}(c:M7 w){x:ak×Int}(d:Good x.1) :
  br (x.2==0) ((cY F0 x.1).bind fun e=>br (!e.1) (br ((4:Int) != 0) ((aM F0 w).bind fun b=>some (b.1,(4:Int),())) (some (x.1,0,()))) (br (x.2 != 0) ((aM F0 w).bind fun b=>some (b.1,x.2,())) (some (x.1,0,())))) (br (x.2 != 0) ((aM F0 w).bind fun b=>some (b.1,x.2,())) (some (x.1,0,())))=some ((aCa w x).1,(aCa w x).2,()):=by
 rw[Ad d.1.l,ag,kh c,ag,ag];unfold aCa;by_cases a:x.2=0
 .rw[bc.2 a,ae,ah a,show(x.2 != 0)=false by simp[a]];cases oG x.1<;>rfl
 .rw[bR.2 a,aa,af a,show(x.2 != 0)=true by simp[a]];rfl
def aEC {w:ak}(h:aJ w){d:ed}(j:fc d.2.2.2):ajc F0 w d=some ((doI w d).1,(doI w d).2,()):=by
 have t:=h.le7;rw[awy,Ad h.w.l,ag,h.ok,aG,aa,bM,ag,avu h,ag,kh h.w];unfold doI;cases u:e4 1 10 d.1 with
 |false=>rfl
 |true =>
  rw[ah rfl,aG,aa];cases c:QE w d with
  |false=>rfl
  |true =>
   rw[ah rfl,aG,aa];simp only[ag];have tail:∀x:ak×Int,Good x.1->_:=fun x p=>aCb h.w p
   rw[kh h.w]at tail;simp only[ag]at tail;unfold aAn;by_cases i:d.1=2
   .have a:d.2.1∈b8 w:=by rw[Pu (fun a=>by have:=ih.1 a;omega) (by omega)]at c;exact lT c
    obtain⟨e,f⟩:=j3 a;rw[bc.2 i,ae,ah i,atb h e f,ag];exact tail _ (aza h e f).axw
   .rw[bR.2 i,aa,af i];by_cases b:ME d=true
    .have k:e4 0 (ai ((w.2.2.2.1.length:Int)-1)) d.2.1=true:=by rw[Pt b]at c;exact c
     have m:=Wj h k;have l:=ag3 h j (fun _=>m);have q:Good (axx w d).1:=Wk h (fun _=>m) (fun a=>absurd b a);rw[ah (.inl b),l,ag];have fin:=tail _ q;by_cases n:d.1=3
     .rw[bc.2 n,ae];exact fin
     .rw[bR.2 n,aa];by_cases o:d.1=4
      .rw[bc.2 o,ae];exact fin
      .have r:d.1=5:=by have:=ih.1 b;omega
       rw[bR.2 o,aa,bc.2 r,ae];exact fin
    .have v:¬(d.1=3\/d.1=4\/d.1=5):=fun a=>b (ih.2 a)
     rw[bR.2 (show d.1≠3 by omega),aa,bR.2 (show d.1≠4 by omega),aa,bR.2 (show d.1≠5 by omega),aa];by_cases g:d.1=10
     .have k:e4 0 (ai (w.1.1-1)) d.2.1=true:=by rw[afx b g]at c;exact c
      have l:=ag3 h j (fun a=>absurd (ih.2 a) b);rw[bc.2 g,ae,ah (.inr g),l,ag];exact tail _ (Wk h (fun a=>absurd a b) (fun _=>k))
     .have a:d.2.1∈b8 w:=by rw[Pu b g]at c;exact lT c
      obtain⟨e,f⟩:=j3 a;obtain⟨s,y⟩:=h.rep e f;rw[bR.2 g,aa,af (fun a=>a.elim b g),kx e (by omega),ad,HD e f,avr s j,ag,ad];exact tail (atc true w d) (h.atc true e f).axw
def aqv (w:ak)(d:ed):ak:=if (doI w d).2=0 then (doI w d).1 else w
def anx (w:ak)(list:List ed):ak:=list.foldl aqv w
def azb {w:ak}(h:aJ w)(d:ed):aJ (aqv w d):=by
 unfold aqv;split
 .rename_i a;unfold doI at a ⊢;cases l:e4 1 10 d.1 with
  |false=>rw[l,af (by decide)]at a;exact absurd (show(1:Int)=0 from a) (by decide)
  |true =>
   rw[l,ah rfl]at a;rw[ah rfl];cases c:QE w d with
   |false=>rw[c,af (by decide)]at a;exact absurd (show(2:Int)=0 from a) (by decide)
   |true =>
    rw[c,ah rfl]at a;rw[ah rfl];have o:Good (aAn w d).1:=by
     unfold aAn;by_cases m:d.1=2
     .have b:d.2.1∈b8 w:=by rw[Pu (fun b=>by have:=ih.1 b;omega) (by omega)]at c;exact lT c
      obtain⟨g,i⟩:=j3 b;rw[ah m];exact(aza h g i).axw
     .rw[af m];by_cases e:ME d=true
      .have j:e4 0 (ai ((w.2.2.2.1.length:Int)-1)) d.2.1=true:=by rw[Pt e]at c;exact c
       rw[ah (.inl e)];exact Wk h (fun _=>Wj h j) (fun b=>absurd e b)
      .by_cases f:d.1=10
       .have j:e4 0 (ai (w.1.1-1)) d.2.1=true:=by rw[afx e f]at c;exact c
        rw[ah (.inr f)];exact Wk h (fun b=>absurd b e) (fun _=>j)
       .have b:d.2.1∈b8 w:=by rw[Pu e f]at c;exact lT c
        obtain⟨g,i⟩:=j3 b;rw[af (fun b=>b.elim e f)];exact(h.atc true g i).axw
    unfold aCa at a ⊢;by_cases k:(aAn w d).2=0
    .rw[ah k]at a ⊢;cases n:oG (aAn w d).1 with
     |false=>rw[n,af (by decide)]at a;exact absurd (show(4:Int)=0 from a) (by decide)
     |true=>rw[ah rfl];exact o.2 n
    .rw[af k]at a;exact absurd a k
 .exact h
def avv:∀{list:List ed} {w:ak},aJ w->aJ (anx w list)
 |[],_,h=>h|d::list,w,h=>avv (list:=list) (azb h d)
def aAo {w:ak}(h:aJ w){list:List ed}(t:list.length<=500)(p:∀d∈list,fc d.2.2.2):∃a:List Int,a.length=list.length/\JL F0 w list=some (anx w list,a,()):=by
 rw[aoJ,kh h.w,ag,Ad h.w.l,ag,h.ok,aG,aa,aK (show ¬(list.length:Int)>500 by omega),aa];have key:∀(b k:Nat) (z:ak) (f:List Int) (n:Nat),k+b=list.length->aJ z->f.length=k->b<n->∃a:List Int,a.length=list.length /\
   z6 F0 (JK F0) n (pt list (list.length:Int) (k:Int) 0 0 z.1.1 z.1.2 z.2.1 z.2.2.1 z.2.2.2.1 z.2.2.2.2 f [] [] [] [])=some (anx z (list.drop k),a,()):=by
  intro b
  induction b with
  |zero =>
   intro k z f n q g j r;obtain⟨n,rfl⟩:∃m,n=m+1:=⟨n-1,by omega⟩;obtain rfl:k=list.length:=by omega
   rw[Mf,aE,aa,aeZ,WU];exact⟨f,j,rfl⟩
  |succ b l =>
   intro k z f n q g j r;obtain⟨n,rfl⟩:∃m,n=m+1:=⟨n-1,by omega⟩;have c:k<list.length:=by omega
   have s:=aEC g (p _ (cy c));rw[Mf,aO c,ae,ao c,ad,bb c,show(((z.1.1,z.1.2),z.2.1,z.2.2.1,z.2.2.2.1,z.2.2.2.2):ak)=z from rfl,s,ag,av (by omega) (by omega) (by first|omega|(simp only[aL,aV,ba];omega)|(rw[a1,bz];omega)),ad,ad,al (by omega),QG c];have o:=azb g list[k];show ∃a:List Int,_/\_=some (anx (aqv z list[k]) (list.drop (k+1)),a,());by_cases i:(doI z list[k]).2=0
   .have e:aqv z list[k]=(doI z list[k]).1:=ah i;rw[e]at o ⊢;rw[bc.2 i,ae];exact l (k+1) _ _ n (by omega) o (by rw[aL,dr];omega) (by omega)
   .have e:aqv z list[k]=z:=af i;rw[e];rw[bR.2 i,aa];exact l (k+1) _ _ n (by omega) g (by rw[aL,dr];omega) (by omega)
 exact key list.length 0 w [] F0.n (by omega) h rfl (by rw[bH];omega)
def aAp {w:ak}(h:aJ w){list:List ed}(b:list.length<=500)(c:∀d∈list,fc d.2.2.2):∃a,JL F0 w list=some (anx w list,a,()):=by obtain⟨a,_,h⟩:=aAo h b c;exact⟨a,h⟩
def ac8 (w:ak)(x:ak×Int):ak×Int×ak:=if x.2=0 then (x.1,0,Di) else (Di,x.2,w)
def vM (w x:ak):ac8 w (x,0)=(x,0,Di):=ah rfl
def Em (w y:ak){k:Int}(h:k≠0):ac8 w (y,k)=(Di,k,w):=af h
def aED (w:ak)(a:Int):ak×Int:=(lR w a (afw w.1 (b9 w a)).1,(afw w.1 (b9 w a)).2)
def axA {w:ak}(h:aJ w){a:Int}(c:0<=a)(e:a<w.2.2.1.length):K0 F0 w a=some (ac8 w (aED w a)):=by
 obtain⟨b,l⟩:=h.rep c e;rw[alk,kx c (by omega),ad,HD c e,ay6 b,ag,ad,dJ b.bt,ag];unfold aED afw;cases g:(ask w.1 (b9 w a)).2 with
 |false=>rfl
 |true =>
  obtain⟨_,f,_,_⟩:=aB0 g;obtain⟨i,j⟩:=HV f;have k:yg F0 w.1 ((b9 w a).1,(b9 w a).2.1,(b9 w a).2.1,(b9 w a).2.2.2) (1,0,(ask w.1 (b9 w a)).1,(0,aj,[]),(0,aj,[]),0,0,0,0,0)=some ((ai0 w.1 (b9 w a)).1,(ai0 w.1 (b9 w a)).2,()):=avc b.Pr (Z8 i j);dsimp only;rw[k,ag,YG (axq b) f,ag,aG,aa,ah rfl];cases (ai0 w.1 (b9 w a)).2 with
  |false=>rw[af (fun d=>by cases d.1)];rfl
  |true =>
   cases (ig w.1 (ai0 w.1 (b9 w a)).1 (ask w.1 (b9 w a)).1).2 with
   |false=>rw[af (fun d=>by cases d.2)];rfl
   |true =>
    rw[ah ⟨rfl,rfl⟩,aG,aa,aa,ad];rfl
def aCc (w:ak)(a:Int):ak×Int:=(lR w a (aqn w.1 (b9 w a)).1,(aqn w.1 (b9 w a)).2)
def avw {w:ak}(h:aJ w){a:Int}(b:0<=a)(e:a<w.2.2.1.length):GR F0 w a=some (ac8 w (aCc w a)):=by
 obtain⟨c,o⟩:=h.rep b e;have f:=c.f.l.t;rw[ah8,kx b (by omega),ad,HD b e,aF (by omega) (by omega)];unfold aCc aqn;generalize p:b9 w a=r at c f;have key:∀(k n:Nat),k<=r.2.2.2.2.2.1.length->k<n ->
   yl F0 (p9 F0) n (p8 a ((k:Int)-1) w.1.1 w.1.2 w.1.1 w.1.2 0 0 r.1 r.2.1 r.2.2.1 r.2.2.2.1.1 r.2.2.2.1.2.1 r.2.2.2.1.2.2.1.1 r.2.2.2.1.2.2.1.2.1 r.2.2.2.1.2.2.1.2.2 r.2.2.2.1.2.2.2 r.2.2.2.2.1 r.2.2.2.2.2.1 r.2.2.2.2.2.2.1.1 r.2.2.2.2.2.2.1.2 r.2.2.2.2.2.2.2 w.2.1 w.2.2.1 w.2.2.2.1 w.2.2.2.2 [] [] [] [])
    = some (ac8 w (lR w a (E9 w.1 r k).1,(E9 w.1 r k).2)):=by
  intro k
  induction k with
  |zero =>
   intro n g i;obtain⟨n,rfl⟩:∃m,n=m+1:=⟨n-1,by omega⟩;rw[FE,aK (show ¬((0:Nat):Int)-1>=0 by omega),aa,Zp];rfl
  |succ k j =>
   intro n g i;obtain⟨n,rfl⟩:∃m,n=m+1:=⟨n-1,by omega⟩;have d:k<r.2.2.2.2.2.1.length:=by omega
   have l:=aAf c (r.2.2.2.2.2.1[k]).1 (c.l.tq _ (cy d)).1 true;rw[FE,show((k+1:Nat):Int)-1=(k:Int) by omega,aH (show(k:Int)>=0 by omega),ae,ao d,ad,ad,ad,bb d,Le,kx b (by omega)];unfold E9;rw[aY d,show((r.2.2.2.2.2.1[k]).2.1.toList==aj.toList)=dk (r.2.2.2.2.2.1[k]).2.1 from rfl];cases q:dk (r.2.2.2.2.2.1[k]).2.1 with
   |true =>
    rw[ah rfl,ae,aF (by omega) (by omega)];exact j n (by omega) (by omega)
   |false =>
    rw[af (by decide),aa];refine AJ (ve (fun x=>Option.bind x _) l) ?_;rw[ag];cases (gm w.1 r (r.2.2.2.2.2.1[k]).1 (r.2.2.2.2.2.1[k]).2.1 true).2 with
    |false=>rfl
    |true =>
     rw[ah rfl,ah rfl];dsimp only;rw[aG,aa,ad,Le];rfl
 exact key r.2.2.2.2.2.1.length F0.n (bP _) (by rw[bH];omega)
def aCd {w:ak}{a:Int}(r:aA)(list:List kr):Aj (lR w a r) a list=lR (Aj w a list) a r:=by
 have e:b8 (lR w a r)=b8 w:=by unfold b8 lR;dsimp only;rw[Nd]
 unfold Aj;rw[e];split<;>rfl
def avx (w:ak)(a:Int):ak×Int:=if w.2.2.2.1.length+(bK w a).length<=60/\w.2.2.2.2.length+(bK w a).length<=300 then (ac6 (Ps w a) (bK w a),0) else (w,4)
def avy {w:ak}(h:aJ w){a:Int}(b:0<=a)(d:a<w.2.2.1.length):GQ F0 w a=some (ac8 w (avx w a)):=by
 obtain⟨c,k⟩:=h.rep b d;have q:(bK w a).length<=30:=c.f.n;have f:∀p∈bK w a,fc p.2:=c.aD4;have r:=h.nl;have s:=h.sl;have l:=ava c;have g:=h.lR b c.ac0 k;have m:I3 F0 (w.1,w.2.1,w.2.2.1.set a.toNat (ac0 (b9 w a)),w.2.2.2) a (bK w a)=some (Ps w a,()):=by have:=aAk g.w g.sl a (list:=bK w a) (by omega) f;rw[aCd]at this;exact this
 have o:=h.Ps b d;rw[ah6,kx b (by omega),ad,HD b d,l,ag];dsimp only;rw[show(b9 w a).2.2.2.2.2.2.2=bK w a from rfl,aF (n:=(w.2.2.2.1.length:Int)+(bK w a).length) (by omega) (by omega),aF (n:=(w.2.2.2.2.length:Int)+(bK w a).length) (by omega) (by omega),ad,m,ag,ag1 o.nl (by omega) f,ag];unfold avx;by_cases i:w.2.2.2.1.length+(bK w a).length<=60
 .rw[aK (show ¬(w.2.2.2.1.length:Int)+(bK w a).length>60 by omega),aa];by_cases j:w.2.2.2.2.length+(bK w a).length<=300
  .rw[aK (show ¬(w.2.2.2.2.length:Int)+(bK w a).length>300 by omega),aa,ah ⟨i,j⟩,vM];rfl
  .rw[aH (show(w.2.2.2.2.length:Int)+(bK w a).length>300 by omega),ae,af (fun e=>j e.2),Em _ _ (by decide)];rfl
 .rw[aH (show(w.2.2.2.1.length:Int)+(bK w a).length>60 by omega),ae,af (fun e=>i e.1),Em _ _ (by decide)];rfl
def aCe (w:ak)(d:ed):ak×Int :=
 if e4 0 (ai ((w.2.2.2.1.length:Int)-1)) d.2.1=true then
  if d.1=5 then (if w.2.2.2.1.length<60 then (aaf w (w.2.2.2.1++[dS w d.2.1]),0) else (w,4))
  else if d.1=3/\(dS w d.2.1).1 ∉ w.2.1 then (lR (Sw w d.2.1) (dS w d.2.1).1 (anw false w (dS w d.2.1)),0) else (Sw w d.2.1,0)
 else (w,2)
def aDE {imp:Bool}{c:Int×Int}{r:aA}{m:ct}(h:(M9 imp c r m).2=false):(M9 imp c r m).1=r:=by
 unfold M9 at h ⊢;split
 .rename_i a;rw[ah a]at h;cases h
 .rfl
def aCf {w:ak}{a:Int}(b:0<=a)(c:a<w.2.2.1.length):w.2.2.1.set a.toNat (b9 w a)=w.2.2.1:=by unfold b9;rw[aY (show a.toNat<w.2.2.1.length by omega)];exact avQ _
def aDF {w:ak}{a:Int}(c:0<=a)(e:a<w.2.2.2.1.length)(d:nk):ay w.2.2.2.1 a d=dS w a:=by
 have b:a.toNat<w.2.2.2.1.length:=by omega
 unfold dS;rw[aY b];exact aY b d
def axB {w:ak}(h:aJ w)(d:ed):vy F0 w d=some (ac8 w (aCe w d)):=by
 have t:=h.nl;have u:=h.liars;have v:=h.le7;rw[ala,cO,ag];unfold aCe;cases l:e4 0 (ai ((w.2.2.2.1.length:Int)-1)) d.2.1 with
 |false=>rw[af (by decide),Em _ _ (by decide)];rfl
 |true =>
  obtain⟨i,j⟩:=Wj h l;have b:=h.aDD i j;obtain⟨m,x⟩:=avt b.2.1;obtain⟨t0,t1⟩:=h.axu b.2.2;obtain⟨n,hid⟩:=h.rep t0 t1;have o:ai (d.2.1+1)=d.2.1+1:=aF (by omega) (by omega);have p:(d.2.1+1).toNat=d.2.1.toNat+1:=by omega
  have q:([]++w.2.2.2.1.take d.2.1.toNat)++(w.2.2.2.1.take (w.2.2.2.1.length:Int).toNat).drop (d.2.1+1).toNat=aag w.2.2.2.1 d.2.1.toNat:=by rw[kC,mH,p];rfl
  have y:(w.2.2.2.1.take d.2.1.toNat).length<=60:=by rw[bz];omega
  have z:((w.2.2.2.1.take (w.2.2.2.1.length:Int).toNat).drop (d.2.1+1).toNat).length<=60:=by rw[a1,bz];omega
  have r:okT d.2.1 (w.2.2.2.1.length:Int)=true:=by simp[okT];omega
  rw[ah rfl,aG,aa,kx i j,ad,aDF i j,av (a:=0) (by omega) (by omega) (by have:=b.1.1;omega),ad,av (by omega) (by omega) (by first|omega|(simp only[aL,aV,ba];omega)|(rw[a1,bz];omega)),ad,r,ad,o,amV (by omega) (by omega) (by omega),ad,av (a:=0) (by omega) (by omega) (by omega),ad,av (by omega) (by omega) (by rw[Fc];omega),ad,
   q,e3 (by omega),ag,ap7 b.1,ag,kx t0 t1,ad]
  dsimp only;rw[HD t0 t1,avi n m,ag,ad];by_cases c:d.1=5
  .rw[bc.2 c,ae,ah c];by_cases g:w.2.2.2.1.length<60
   .rw[aK (show ¬(w.2.2.2.1.length:Int)>=60 by omega),aa,ah g,vM];rfl
   .rw[aH (show(w.2.2.2.1.length:Int)>=60 by omega),ae,af g,Em _ _ (by decide)];rfl
  .rw[bR.2 c,aa,af c];by_cases e:d.1=3
   .rw[bc.2 e,ae];by_cases f:(dS w d.2.1).1∈w.2.1
    .rw[aH f,aG,aa,af (fun k=>k.2 f),vM];rfl
    .rw[aK f,dW,ae,ah ⟨e,f⟩,vM];unfold anw;cases s:(M9 false w.1 (b9 w (dS w d.2.1).1) (rU w.1 (dS w d.2.1).2).1).2 with
     |true=>rfl
     |false =>
      rw[aDE s];have:=aCf t0 t1;show some (((w.1,w.2.1,w.2.2.1,aag w.2.2.2.1 d.2.1.toNat,w.2.2.2.2):ak),(0:Int),_)=some ((w.1,w.2.1,w.2.2.1.set _ _,aag w.2.2.2.1 d.2.1.toNat,w.2.2.2.2),0,Di);rw[this];rfl
   .rw[bR.2 e,aa,af (fun k=>e k.1),vM];rfl
def aCg (w:ak)(d:ed):ak×Int :=
 if e4 0 (ai (w.1.1-1)) d.2.1=true then (if Na w.1 w.2.1 w.2.2.2.2 d.2.2.2=true then (if w.2.2.2.1.length<60 then (ac6 w [(d.2.1,d.2.2.2)],0) else (w,4)) else (w,5)) else (w,2)
def axC {w:ak}(h:aJ w){d:ed}(a:fc d.2.2.2):KY F0 w d=some (ac8 w (aCg w d)):=by
 have b:=h.nl;have e:=h.liars;have f:=h.sl;rw[alh,cO,ag,axl (by omega) (by omega) a,ag,ag1 b (by simp) (fun p c=>by rw[ki.1 c];exact a),ag];unfold aCg;cases e4 0 (ai (w.1.1-1)) d.2.1 with
 |false=>rfl
 |true =>
  cases Na w.1 w.2.1 w.2.2.2.2 d.2.2.2 with
  |false=>rfl
  |true =>
   by_cases g:w.2.2.2.1.length<60
   .rw[aK (show ¬(w.2.2.2.1.length:Int)>=60 by omega),ah g];rfl
   .rw[aH (show(w.2.2.2.1.length:Int)>=60 by omega),af g];rfl
def aCh (w:ak)(d:ed):ak×Int:=if d.1=2 then avx w d.2.1 else atc false w d
def aqw {w:ak}{x:ak×Int}:((some (ac8 w x):Option (ak×Int×ak)).bind fun r=>br (r.2.1==0) (some (r.1,(0:Int),Di)) (br (r.2.1==0) none (some (Di,r.2.1,w.1,r.2.2.2))))=some (ac8 w x):=by
 rw[ag];unfold ac8;by_cases h:x.2=0
 .rw[ah h];rfl
 .rw[af h];dsimp only;rw[bR.2 h,aa,aa]
def axD {w:ak}(h:aJ w){d:ed}(o:fc d.2.2.2)(a:0<=d.2.1)(c:d.2.1<w.2.2.1.length):Li F0 w d=some (ac8 w (aCh w d)):=by
 obtain⟨b,t⟩:=h.rep a c;have p:On F0 w.1 ((b9 w d.2.1).1,(b9 w d.2.1).2.1,(b9 w d.2.1).2.2.1,(b9 w d.2.1).2.2.2.1,(b9 w d.2.1).2.2.2.2.1,(b9 w d.2.1).2.2.2.2.2.1,sJ (b9 w d.2.1).2.2.2.2.2.2.1 d.2.2.1,(b9 w d.2.1).2.2.2.2.2.2.2)=some (aqq w.1 (b9 w d.2.1) d.2.2.1,()):=aBV (b.VB d.2.2.1).bt (b.VB d.2.2.1).ok;have e:=fun x:ak×Int=>aqw (w:=w) (x:=x)
 unfold Di at e;rw[alu,kx a (by omega),ad,axA h a c,avy h a c,avw h a c,HD a c,dJ b.bt,aw6 b.bt.d.1,aB1 b,avi b o];have q:=e (aED w d.2.1);have r:=e (avx w d.2.1);have s:=e (aCc w d.2.1);unfold aCh atc ai1;by_cases f:d.1=1
 .rw[bc.2 f,ae,af (by omega),ah f];exact q
 .rw[bR.2 f,aa,af f];by_cases g:d.1=2
  .rw[bc.2 g,ae,ah g];exact r
  .rw[bR.2 g,aa,af g];by_cases i:d.1=6
   .rw[bc.2 i,ae,ah i];exact s
   .rw[bR.2 i,aa,af i];by_cases j:d.1=8
    .rw[bc.2 j,ae,af (by omega),ah j,vM];simp only[ag,p,ad];rfl
    .rw[bR.2 j,aa];by_cases l:d.1=7
     .rw[bc.2 l,ae,ah l,ag];cases (MC w.1 (b9 w d.2.1)).2 with
      |false=>rw[af (by decide),Em _ _ (k:=3) (show(3:Int)≠0 by decide)];rfl
      |true=>rw[ah rfl,vM,ad];rfl
     .rw[bR.2 l,aa,af l,af j,ag];unfold aB8;cases (M9 false w.1 (b9 w d.2.1) d.2.2.2).2 with
      |false=>rw[af (fun n=>by cases n.1),Em _ _ (k:=3) (show(3:Int)≠0 by decide)];rfl
      |true =>
       by_cases m:d.2.2.2.1=4
       .rw[ah ⟨rfl,m⟩,vM,aG,aa,show(d.2.2.2.1 != 4)=false by simp[m],aa,ad];rfl
       .rw[af (fun n=>m n.2),Em _ _ (k:=3) (show(3:Int)≠0 by decide),aG,aa,show(d.2.2.2.1 != 4)=true by simp[m],ae];rfl
def axE (w:ak)(d:ed):ak×Int:=if ME d=true then aCe w d else if d.1=10 then aCg w d else if d.2.1∈b8 w then aCh w d else (w,2)
def axF {w:ak}(h:aJ w){d:ed}(g:fc d.2.2.2):Lj F0 w d=some (ac8 w (axE w d)):=by
 have hlen:=pA w;have p:=h.le7;have b:=fun x:ak×Int=>aqw (w:=w) (x:=x)
 unfold Di at b;have f:=b (aCe w d);have k:=b (aCg w d);have l:=b (aCh w d);rw[alw,axB h,axC h g,amN h.w.l];unfold axE;by_cases c:ME d=true
 .rw[ah c];by_cases i:d.1=3
  .rw[bc.2 i,ae];exact f
  .rw[bR.2 i,aa];by_cases j:d.1=4
   .rw[bc.2 j,ae];exact f
   .have m:d.1=5:=by have:=ih.1 c;omega
    rw[bR.2 j,aa,bc.2 m,ae];exact f
 .have q:¬(d.1=3\/d.1=4\/d.1=5):=fun a=>c (ih.2 a)
  rw[af c,bR.2 (show d.1≠3 by omega),aa,bR.2 (show d.1≠4 by omega),aa,bR.2 (show d.1≠5 by omega),aa];by_cases e:d.1=10
  .rw[bc.2 e,ae,ah e];exact k
  .rw[bR.2 e,aa,af e,ag,e3 (by dsimp only;omega),ag];by_cases a:d.2.1∈b8 w
   .obtain⟨n,o⟩:=j3 a;rw[aH a,aG,aa,ah a,axD h g n o];exact l
   .rw[aK a,dW,ae,af a,Em _ _ (by decide)];rfl
def avz (w:ak)(d:ed):ak:=if (axE w d).2=0 then (axE w d).1 else w
def avA {w:ak}(h:aJ w){d:ed}(b:fc d.2.2.2):GS F0 w d=some ((avz w d,()),()):=by
 rw[aic,axF h b,ag];unfold avz ac8;by_cases a:(axE w d).2=0
 .rw[ah a,ah a];rfl
 .rw[af a,af a];dsimp only;rw[bR.2 a,aa,show((axE w d).2 != 0)=true by simp[a],ae]
def aJ.aGj {w:ak}(h:aJ w)(d:ed):aJ (avz w d):=by
 unfold avz;split
 .rename_i f;clear f;unfold axE;split
  .unfold aCe;split
   .rename_i i;obtain⟨b,c⟩:=Wj h i;have e:=h.aDD b c;split
    .split
     .rename_i g;refine h.aaf (by rw[aL,dr];omega) fun x a=>?_
      rcases kj.1 a with a|a
      .exact h.nb x a
      .rw[ki.1 a];exact e
     .exact h
    .split
     .obtain⟨t0,t1⟩:=h.axu e.2.2;obtain⟨j,hid⟩:=h.rep t0 t1;exact(h.Sw d.2.1).lR t0 (j.heard false _) (by unfold anw;rw[as9];exact hid)
     .exact h.Sw _
   .exact h
  .split
   .unfold aCg;split
    .split
     .split
      .exact h.send _
      .exact h
     .exact h
    .exact h
   .split
    .rename_i k;obtain⟨b,c⟩:=j3 k;unfold aCh;split
     .unfold avx;split
      .exact(h.Ps b c).send _
      .exact h
     .exact h.atc false b c
    .exact h
 .exact h
def J0 (i:Int):aA:=(i,1,0,rK,[],[],([],0),[])
def aah (c:Int×Int)(liars:List Int):ak:=(c,liars,(List.range c.1.toNat).map fun i:Nat=>J0 (i:Int),[],[])
def anz {c:Int×Int}(a:bq c=true){i:Int}(e:0<=i)(f:i<c.1):aT c (J0 i):=by have d:=b4 a;refine⟨⟨a,?_,rfl,rfl,aae a,rfl,rfl,rfl,aQ _,fun x b=>by cases b⟩,fun x b=>by cases b⟩;show e4 0 (ai (c.1-1)) i=true;rw[Vd d.1 d.2.1];simp only[e4,aD,bV];omega
def aCi {c:Int×Int}(a:bq c=true){liars:List Int}(d:lI c.1 liars=true)(e:(liars.length:Int)<=BG c):aJ (aah c liars):=by
 have m:=b4 a;refine⟨a,d,e,?_,fun r f=>?_,fun k g=>?_,aQ _,(fun x b=>by cases b),aQ _,(fun x b=>by cases b)⟩
 .show(((List.range c.1.toNat).map fun i:Nat=>J0 (i:Int)).length:Int)=c.1;rw[r7,aaj];omega
 .obtain⟨i,h,rfl⟩:=HY.1 f;have:=il.1 h;exact anz a (by omega) (by omega)
 .have j:k<((List.range c.1.toNat).map fun i:Nat=>J0 (i:Int)).length:=g;have l:(((List.range c.1.toNat).map fun i:Nat=>J0 (i:Int))[k]'j).1=(k:Int):=by rw[List.getElem_map,List.getElem_range];rfl
  exact l
def axG {c:Int×Int}(b:bq c=true){i:Int}(d:0<=i)(e:i<c.1):Kr F0 c i=some (J0 i,true,()):=by
 have a:=anz b d e;have f:dj F0 c (i,1,0,(0,0,(0,aj,[]),aj),[],[],([],0),[])=some (true,()):=by have:=gx a.l c;rw[a.ok]at this;exact this
 rw[akB,f];rfl
def avB {c:Int×Int}(b:bq c=true){i:Int}(d:0<=i)(e:i<c.1):Lt F0 c i=some (J0 i,true,()):=by
 have a:=anz b d e;have f:cr F0 c (i,1,0,(0,0,(0,aj,[]),aj),[],[],([],0),[])=some (true,()):=by have:=dV a.l c;rw[a.ok]at this;exact this
 rw[alL,f];rfl
def QF {c:Int×Int}{liars:List Int}(h:aJ (aah c liars)):j8 F0 c liars=some (aah c liars,true,()):=by
 have b:=b4 h.c;have d:bq c=true:=h.c;have f:liars.length<=7:=h.liars;have g:(c.1.toNat:Int)=c.1:=ao9 (by have:4<=c.1:=b.1;omega);have j:c.1.toNat<=7:=by have:c.1<=7:=b.2.1;omega
 rw[adH,av (a:=0) (by omega) (by omega) (by omega),ad];refine aw1 (fun n k xs=>s5 F0 (wN F0) n (nX k c.1 c.2 0 0 c.1 c.2 [] [] [] [] ([]++liars) xs [] [])) (List.range c.1.toNat) (fun i:Nat=>J0 (i:Int)) _ (fun n k xs e l=>?_) (fun n=>?_) _ (by rw[bH,aaj];omega)
 .have m:k<c.1.toNat:=by rw[aaj]at e;exact e
  rw[Du,aH (show(k:Int)<c.1 by omega),ae,show((c.1,c.2):Int×Int)=c from rfl,gL,ag,d,ae,axG d (by omega) (by omega),ag,av (by omega) (by omega) (by first|omega|(simp only[aL,aV,ba];omega)|(rw[a1,bz];omega)),ad,al (by omega),List.getElem_range]
 .have cU:wM F0 ((c.1,c.2),[]++liars,((List.range c.1.toNat).map fun i:Nat=>J0 (i:Int),([],[])))=some (true,()):=by have:=auF h.w.l;rw[h.ok]at this;exact this
  rw[Du,aaj,aK (show ¬(c.1.toNat:Int)<c.1 by omega),aa,Ws,cU];rfl
def ao5 {c:Int×Int}{liars:List Int}(h:aJ (aah c liars)):su F0 c liars=some (aah c liars,true,()):=by
 have b:=b4 h.c;have a:bq c=true:=h.c;have e:liars.length<=7:=h.liars;have f:(c.1.toNat:Int)=c.1:=ao9 (by have:4<=c.1:=b.1;omega);have g:c.1.toNat<=7:=by have:c.1<=7:=b.2.1;omega
 rw[aep,mE (by omega),ag];refine aw1 (fun n k xs=>uc F0 (yI F0) n (oo k c.1 c.2 0 0 c.1 c.2 [] [] [] [] liars xs [] [])) (List.range c.1.toNat) (fun i:Nat=>J0 (i:Int)) _ (fun n k xs d j=>?_) (fun n=>?_) _ (by rw[bH,aaj];omega)
 .have l:k<c.1.toNat:=by rw[aaj]at d;exact d
  rw[DP,show((c.1,c.2):Int×Int)=c from rfl,fh,ag,a,ae,aH (show(k:Int)<c.1 by omega),ae,avB a (by omega) (by omega),ag,av (by omega) (by omega) (by first|omega|(simp only[aL,aV,ba];omega)|(rw[a1,bz];omega)),ad,al (by omega),List.getElem_range]
 .have cU:cY F0 ((c.1,c.2),liars,((List.range c.1.toNat).map fun i:Nat=>J0 (i:Int),([],[])))=some (true,()):=by have:=Ad h.w.l;rw[h.ok]at this;exact this
  rw[DP,show((c.1,c.2):Int×Int)=c from rfl,fh,ag,a,ae,aaj,aK (show ¬(c.1.toNat:Int)<c.1 by omega),aa,WE,cU];rfl
def New (w:ak):Prop:=∃c a,w=aah c a/\aJ (aah c a)
def New.g {w:ak}(h:New w):aJ w:=by obtain⟨c,l,rfl,a⟩:=h;exact a
def aGk (n:Int):lI n []=true:=rfl
def aGl {n x:Int}(a:0<=x)(b:x<n):lI n [x]=true:=by simp[lI,a,b]
def axH {c:Int×Int}(h:bq c=true):1<=BG c:=by have a:=b4 h;unfold BG;rw[ah h];exact(auk a.1 a.2.1).1
def aCj {c:vO}(h:Qu c):Dr (U:=ak) (nY F0 c) New:=by
 unfold Dr;rw[TK];refine Dr.bind (ZZ h (l:=[4,4,4,5,7]) (by decide) (by decide)) fun x g i=>Dr.bind (gl i (n:=3) (by omega) (by omega)) fun y d j=>Dr.bind (ajj j (n:=3) (by omega) (by omega)) fun z o e=>?_
 have p:x.1.1=4\/x.1.1=5\/x.1.1=7:=by simp only[fe,List.not_mem_nil,or_false]at g;omega
 have q:=d.1;have r:=d.2;have b:bq (x.1.1,ai (1+y.1.1))=true:=by rw[aF (by omega) (by omega)];simp only[bq,e4,aD,bV];omega
 have k:=axH b;refine Gd.br (fun _=>?_) fun _=>?_
 .refine Dr.bind (gl e (n:=x.1.1) (by omega) (by omega)) fun v f m=>?_
  have a:aJ (aah (x.1.1,ai (1+y.1.1)) [v.1.1]):=aCi b (aGl f.1 f.2) (by simpa using k);exact Gd.let (QF a) (Gd.ret ⟨⟨_,_,rfl,a⟩,m⟩)
 .have a:aJ (aah (x.1.1,ai (1+y.1.1)) []):=aCi b (aGk _) (by simp;omega);exact Gd.let (QF a) (Gd.ret ⟨⟨_,_,rfl,a⟩,e⟩)
def axI {a b:Int}{V:Type}{f:Int×Unit->Option V}{P:V->Prop}(h:Gd (f (E8 a b,())) P):Gd ((bE F0 a b).bind f) P:=Gd.let (V8 a b) h
def aCk {a b:Int}{V:Type}{f:Int×Unit->Option V}{P:V->Prop}(h:Gd (f (vP a b,())) P):Gd ((dz F0 a b).bind f) P:=Gd.let (BK a b) h
def aqx {up:ByteArray}(d:up.size<=6000){view:Int}(a:I64 view){l:List dU}(e:l.length<=10){V:Type}{f:ByteArray×Unit->Option V}{P:V->Prop}(h:∀b:ByteArray,b.size<=7000->Gd (f (b,())) P):Gd ((jH F0 up view l).bind f) P:=by have c:=amU (up:=up.data.toList) (by show up.size<=_;omega) a (l:=l) (by omega);have g:=aqd (up:=up.data.toList) a l;refine Gd.let c (h _ ?_);rw[bs];have:up.data.toList.length=up.size:=rfl;omega
def aai {w:ak}(h:aJ w)(view:Int)(name:ByteArray)(d:name.size<=1048576){c:vO}(e:Qu c) :
  Gd (cJ F0 (ef F0) F0.n (cq view name 0 c.1 c.2.1 c.2.2 w.1.1 w.1.2 w.2.1 w.2.2.1 w.2.2.2.1 w.2.2.2.2 0 0 aj 0 aj 0 aj 0 aj 0 0 0 0 0 ([]++w.2.1) [] [] [])) fun z:DrT ct=>(∃q:cE,z.1.1=Ai q/\sH q)/\Qu z.2.1:=by
 have g:=h.sl;have j:=h.liars;refine ajh (fun n i (z:List Int)=>cJ F0 (ef F0) n (cq view name i c.1 c.2.1 c.2.2 w.1.1 w.1.2 w.2.1 w.2.2.1 w.2.2.2.1 w.2.2.2.2 0 0 aj 0 aj 0 aj 0 aj 0 0 0 0 0 z [] [] [])) w.2.2.2.2.length (fun k z=>z.length<=7+k) _ (fun n k z b f a=>?_) (fun n z f=>?_) F0.n 0 ([]++w.2.1) (aQ _) (by show w.2.1.length<=_;omega) (by rw[bH];omega)
 .rw[sj,aO b,ae,ao b,ad,ad,ad,al (by omega)];refine Gd.br (fun _=>Gd.br (fun _=>Gd.let (ZN (by omega) _) ?_) fun _=>?_) fun _=>?_
  .exact a _ (by have:=amx z (ay w.2.2.2.2 (k:Int) ZT).2.2;exact cj (amx _ _) (by omega))
  .exact a _ (by omega)
  .exact a _ (by omega)
 .rw[sj,aE,aa,NU];exact Gd.ret ⟨⟨(view,name,z),rfl,d,by show z.length<=_;omega⟩,e⟩
def aCl {c:vO}(k:Qu c){w:ak}(h:aJ w):Dr (U:=ct) (n6 F0 c w) fun m=>∃q:cE,m=Ai q/\sH q:=by
 have t:=h.sl;have u:=h.liars;unfold Dr;rw[TW];refine Dr.bind (gl k (n:=4) (by omega) (by omega)) fun x e f=>?_
 have v:=e.1;have A:=e.2;refine aqx (aQ _) (by rw[aF (by omega) (by omega)];exact⟨by omega,by omega⟩) (aQ _) fun b l=>?_
 refine Gd.ck (av (a:=0) (by omega) (by omega) (by omega)) (Gd.br (fun hlen=>?_) fun _=>aai h _ _ (by show b.size<=_;omega) f);have B:0<w.2.2.2.2.length:=by have:=lT hlen;omega
 refine axI ?_;have m0:0<E8 (w.2.2.2.2.length:Int) 8:=by unfold E8;split<;>omega
 have m1:E8 (w.2.2.2.2.length:Int) 8<=w.2.2.2.2.length:=by unfold E8;split<;>omega
 refine Dr.bind (gl f (n:=E8 (w.2.2.2.2.length:Int) 8) m0 (by omega)) fun y g o=>?_
 have C:=g.1;have D:=g.2;have p:ai (ai ((w.2.2.2.2.length:Int)-1)-y.1.1)=((w.2.2.2.2.length-1-y.1.1.toNat:Nat):Int):=by rw[aF (n:=(w.2.2.2.2.length:Int)-1) (by omega) (by omega),aF (by omega) (by omega)];omega
 have d:w.2.2.2.2.length-1-y.1.1.toNat<w.2.2.2.2.length:=by omega
 have i:=h.sb _ (cy d);have r:=lP i.2.1;have E:=Pg (w.2.2.2.2[w.2.2.2.2.length-1-y.1.1.toNat]).2.1.data.toList;have s:=i.2.2;rw[p];refine Gd.ck (ao d) (Dr.bind (ajj o (n:=3) (by omega) (by omega)) fun z F j=>?_);rw[bb d];refine Gd.br (fun _=>Gd.let (acA (cj r (by omega))) ?_) fun _=>aai h _ _ (by omega) j
 refine aqx (up:=upB (w.2.2.2.2[w.2.2.2.2.length-1-y.1.1.toNat]).2.1) (cj (JY _) (by omega)) (by rw[<-s];exact⟨by omega,by omega⟩) (by simp) fun b l=>aai h _ _ (by show b.size<=_;omega) j
def anA {c:Int×Int}{q:cE}{view:Int}{l:List dU}:(iJ c q view l).1.1.size<=1048576/\sH (iJ c q view l).1.2:=by
 unfold iJ;split
 .rename_i a;exact HV a.1
 .exact⟨aQ _,e9⟩
def aCm {w:ak}(h:aJ w){q:cE}(b:eK w.1 q=true)(cC:Int){view:Int}(d:0<=view)(e:view<=61){c:vO}(f:Qu c) :
  Gd (bF F0 (bg F0) F0.n (bf cC view 0 c.1 c.2.1 c.2.2 w.1.1 w.1.2 w.2.1 w.2.2.1 w.2.2.2.1 w.2.2.2.2 0 0 aj 0 aj 0 aj 0 aj 0 0 0 0 0 q.1 q.2.1 [] [] [] q.2.2)) fun z:DrT ct=>fc z.1.1/\Qu z.2.1:=by
 have out:∀v:Int,0<=v->v<=61->Gd (bg F0 (.exit 1) (gb v c.1 c.2.1 c.2.2 w.1.1 w.1.2 w.2.1 w.2.2.1 w.2.2.2.1 w.2.2.2.2 0 0 aj 0 aj 0 aj 0 aj 0 0 0 0 0 q.1 q.2.1 [] [] [] q.2.2)) fun z:DrT ct=>fc z.1.1/\Qu z.2.1:=fun v o p=>by
  rw[SD];refine Dr.bind (aqc f) fun x r g=>?_
  have i:=acZ (c:=w.1) b (view:=v) ⟨by omega,by omega⟩ (l:=[x.1.1]) (by simp);exact Gd.let i (Gd.ret ⟨Z8 anA.1 anA.2,g⟩)
 refine ajh (fun n k (v:Int)=>bF F0 (bg F0) n (bf cC v k c.1 c.2.1 c.2.2 w.1.1 w.1.2 w.2.1 w.2.2.1 w.2.2.2.1 w.2.2.2.2 0 0 aj 0 aj 0 aj 0 aj 0 0 0 0 0 q.1 q.2.1 [] [] [] q.2.2)) 7 (fun k v=>0<=v/\v<=61) _ (fun n k v s a j=>?_) (fun n v a=>?_) F0.n 0 view (aQ _) ⟨d,e⟩ (by rw[bH];omega)
 .have i0:=a.1;have i1:=a.2;rw[w6,aH (show(k:Int)<7 by omega),ae];refine Gd.br (fun m=>Gd.let (JP _ _) (Gd.br (fun _=>?_) fun _=>out v i0 i1)) fun _=>out v i0 i1
  have t:=lT m;rw[aF (n:=v+1) (by omega) (by omega),al (by omega)];exact j (v+1) ⟨by omega,by omega⟩
 .rw[w6,aK (show ¬((7:Nat):Int)<7 by omega),aa];exact out v a.1 a.2
def avC {w:ak}(h:aJ w){q:cE}(b:eK w.1 q=true)(cC:Int){m:ct}(g:fc m){c:vO}(i:Qu c) :
  Gd ((au F0 c 4).bind fun a=>br (a.1.1==0) (some ((m,()),a.2.1,())) (br (a.1.1==1) ((au F0 a.2.1 2).bind fun f=>(bE F0 (ai ((ai (q.1+1))+f.1.1)) 60).bind fun j=>some (((3,j.1,(aj,0,aj,[]),(0,aj,[]),q,cC,0,0,0,0),()),f.2.1,())) (bF F0 (bg F0) F0.n (bf cC (ai (q.1+1)) 0 a.2.1.1 a.2.1.2.1 a.2.1.2.2 w.1.1 w.1.2 w.2.1 w.2.2.1 w.2.2.2.1 w.2.2.2.2 0 0 aj 0 aj 0 aj 0 aj 0 0 0 0 0 q.1 q.2.1 [] [] [] q.2.2)))) fun z:DrT ct=>fc z.1.1/\Qu z.2.1:=by
 obtain⟨_,_,l,_⟩:=Z2 b;have o:=Pg q.2.1.data.toList;have e:ai (q.1+1)=q.1+1:=aF (by omega) (by omega);refine Dr.bind (gl i (n:=4) (by omega) (by omega)) fun x p d=>Gd.br (fun _=>Gd.ret ⟨g,d⟩) fun _=>Gd.br (fun _=>?_) fun _=>?_
 .exact Dr.bind (gl d (n:=2) (by omega) (by omega)) fun y r k=>axI (Gd.ret ⟨Pn (M8 b) cC,k⟩)
 .rw[e];exact aCm h b cC (by omega) (by omega) d
def avD {c:Int×Int}(a:bq c=true):eK c b5=true:=by unfold eK WQ;simp only[a];rfl
def avE:GC F0=some (b5,()):=by rw[ahH];rfl
def aEE {c:vO}(v:Qu c){w:ak}(h:aJ w):Dr (U:=ct) (gD F0 c w) fc:=by
 have D:=h.le7;have E:=h.liars;unfold Dr;rw[Zf];refine Dr.bind (aCl v h) fun x A f=>?_
 obtain⟨q,e,o⟩:=A;obtain⟨⟨m,u⟩,⟨F,G⟩⟩:=x;dsimp only at e f ⊢;subst e;have p:=afr o;have cC:∀(Q:cE),eK w.1 Q=true->∀g:vO,Qu g->Gd (br (decide ((w.2.1.length:Int)>0)) ((au F0 g (w.2.1.length:Int)).bind fun i=>ck (bN i.1.1 (w.2.1.length:Int)) ((au F0 i.2.1 4).bind fun a=>br (a.1.1==0) (some ((Ai q,()),a.2.1,())) (br (a.1.1==1) ((au F0 a.2.1 2).bind fun d=>(bE F0 (ai ((ai (Q.1+1))+d.1.1)) 60).bind fun k=>some (((3,k.1,(aj,0,aj,[]),(0,aj,[]),Q,ay w.2.1 i.1.1 0,0,0,0,0),()),d.2.1,())) (bF F0 (bg F0) F0.n (bf (ay w.2.1 i.1.1 0) (ai (Q.1+1)) 0 a.2.1.1 a.2.1.2.1 a.2.1.2.2 w.1.1 w.1.2 w.2.1 w.2.2.1 w.2.2.2.1 w.2.2.2.2 0 0 aj 0 aj 0 aj 0 aj 0 0 0 0 0 Q.1 Q.2.1 [] [] [] Q.2.2))))) ((au F0 g 4).bind fun a=>br (a.1.1==0) (some ((Ai q,()),a.2.1,())) (br (a.1.1==1) ((au F0 a.2.1 2).bind fun d=>(bE F0 (ai ((ai (Q.1+1))+d.1.1)) 60).bind fun k=>some (((3,k.1,(aj,0,aj,[]),(0,aj,[]),Q,0,0,0,0,0),()),d.2.1,())) (bF F0 (bg F0) F0.n (bf 0 (ai (Q.1+1)) 0 a.2.1.1 a.2.1.2.1 a.2.1.2.2 w.1.1 w.1.2 w.2.1 w.2.2.1 w.2.2.2.1 w.2.2.2.2 0 0 aj 0 aj 0 aj 0 aj 0 0 0 0 0 Q.1 Q.2.1 [] [] [] Q.2.2))))) fun z:DrT ct=>fc z.1.1/\Qu z.2.1:=fun Q r g s=>by
  refine Gd.br (fun B=>?_) fun _=>avC h r 0 p s
  have:=lT B;refine Dr.bind (gl s (n:=(w.2.1.length:Int)) (by omega) (by omega)) fun y l j=>Gd.ck (kx l.1 l.2) (avC h r _ p j)
 refine Gd.let (Ql (q:=q) o w.1) (Gd.br (fun _=>Gd.let avE (Gd.br (fun _=>?_) fun _=>cC b5 (avD h.c) _ f)) fun cU=>cC q (by simpa using cU) _ f);refine Dr.bind (ajj f (n:=2) (by omega) (by omega)) fun y l j=>Gd.br (fun _=>?_) fun _=>cC b5 (avD h.c) _ j
 refine Dr.bind (gl j (n:=(w.2.2.1.length:Int)) (by omega) (by omega)) fun z b C=>Gd.ck (kx b.1 b.2) ?_
 have t:=(h.rep b.1 b.2).1;rw[HD b.1 b.2];exact Gd.let (u6 t.l.s.1.2) (cC _ (ey t.f.s).2.2.1 _ C)
def aFw:ct:=(0,0,(aj,b5),b5,b5,0,oJ)
def HE:fc aFw:=⟨aQ _,e9,e9,e9⟩
def aFx (d:ed):Prop:=fc d.2.2.2
def ag4 (d:ed):Prop:=fc d.2.2.2/\e4 1 10 d.1=true
def afy {w:ak}(h:aJ w)(a:Int){c:vO}(b:Qu c) :
  Gd (br ((w.2.2.2.1.length:Int)==0) (some (((2,a,0,0,0,(aj,0,aj,[]),(0,aj,[]),(0,aj,[]),0,0,0,0,0),()),c,())) ((bE F0 (w.2.2.2.1.length:Int) 4).bind fun e=>(au F0 c e.1).bind fun d=>some (((3,d.1.1,0,0,0,(aj,0,aj,[]),(0,aj,[]),(0,aj,[]),0,0,0,0,0),()),d.2.1,()))) fun z:DrT ed=>ag4 z.1.1/\Qu z.2.1:=by
 refine Gd.br (fun _=>Gd.ret ⟨⟨HE,by simp[e4]⟩,b⟩) fun f=>axI ?_
 have i:(w.2.2.2.1.length:Int)≠0:=by simpa using f
 have m0:0<E8 (w.2.2.2.1.length:Int) 4:=by unfold E8;split<;>omega
 have m1:E8 (w.2.2.2.1.length:Int) 4<=4:=by unfold E8;split<;>omega
 exact Dr.bind (gl b (n:=E8 (w.2.2.2.1.length:Int) 4) m0 (by omega)) fun y j g=>Gd.ret ⟨⟨HE,by simp[e4]⟩,g⟩
def aCn {a:Int}{n k:Nat}(b:0<=a)(c:a<n)(d:k<n)(e:n<=7):0<=Int.tmod (ai (a+(k:Int))) (n:Int)/\Int.tmod (ai (a+(k:Int))) (n:Int)<n:=by rw[aF (by omega) (by omega),ajp (by omega)];exact⟨YK _ (by omega),ajs _ (by omega)⟩
def nz0 {n:Nat}(h:0<n):(!((n:Int)==0))=true:=by simp;omega
def anB {w:ak}(h:aJ w){a:Int}(i:0<=a)(j:a<w.2.2.1.length){c:vO}(d:Qu c) :
  Gd (dC F0 (dD F0) F0.n (cT (w.2.2.1.length:Int) a 0 c.1 c.2.1 c.2.2 w.1.1 w.1.2 w.2.1 w.2.2.1 w.2.2.2.1 w.2.2.2.2 0 0 0 0 0 aj 0 aj 0 aj 0 aj 0 0 0 0 0 [] [] [])) fun z:DrT ed=>ag4 z.1.1/\Qu z.2.1:=by
 have l:=h.le7;have p:=h.liars;refine ajh (fun n k (z:Unit)=>dC F0 (dD F0) n (cT (w.2.2.1.length:Int) a k c.1 c.2.1 c.2.2 w.1.1 w.1.2 w.2.1 w.2.2.1 w.2.2.2.1 w.2.2.2.2 0 0 0 0 0 aj 0 aj 0 aj 0 aj 0 0 0 0 0 [] [] [])) w.2.2.1.length (fun _ _=>True) _ (fun n k z e m f=>?_) (fun n z m=>?_) F0.n 0 () (aQ _) trivial (by rw[bH];omega)
 .obtain⟨b,g⟩:=aCn i j e l.2;have o:=(h.rep b g).1;rw[vx,aO e,ae,nz0 (by omega),ad,kx b (by omega),ad,HD b g,ad,ad,SF,al (by omega)];refine Gd.let (ay6 o) (Gd.br (fun _=>?_) fun _=>f () trivial);refine Gd.let (e3 (by omega) _) (Gd.br (fun _=>?_) fun _=>f () trivial);exact Gd.ret ⟨⟨HE,by simp[e4]⟩,d⟩
 .rw[vx,aE,aa,PV];exact Gd.ret ⟨⟨HE,by simp[e4]⟩,d⟩
def Wl {w:ak}(h:aJ w){a:Int}(e:0<=a)(f:a<w.2.2.1.length){c:vO}(b:Qu c) :
  Gd (dB F0 (cS F0) F0.n (cR (w.2.2.1.length:Int) a 0 c.1 c.2.1 c.2.2 w.1.1 w.1.2 w.2.1 w.2.2.1 w.2.2.2.1 w.2.2.2.2 0 0 0 0 0 aj 0 aj 0 aj 0 aj 0 0 0 0 0 [] [] [])) fun z:DrT ed=>ag4 z.1.1/\Qu z.2.1:=by
 have g:=h.le7;refine ajh (fun n k (z:Unit)=>dB F0 (cS F0) n (cR (w.2.2.1.length:Int) a k c.1 c.2.1 c.2.2 w.1.1 w.1.2 w.2.1 w.2.2.1 w.2.2.2.1 w.2.2.2.2 0 0 0 0 0 aj 0 aj 0 aj 0 aj 0 0 0 0 0 [] [] [])) w.2.2.1.length (fun _ _=>True) _ (fun n k z d i j=>?_) (fun n z i=>?_) F0.n 0 () (aQ _) trivial (by rw[bH];omega)
 .obtain⟨l,m⟩:=aCn e f d g.2;rw[vw,aO d,ae,nz0 (by omega),ad,kx l (by omega),ad,ad,SE,al (by omega)];refine Gd.br (fun _=>?_) fun _=>j () trivial
  exact Gd.ret ⟨⟨HE,by simp[e4]⟩,b⟩
 .rw[vw,aE,aa,PU];exact afy h a b
def anC {w:ak}(h:aJ w)(a:Int){c:vO}(b:Qu c) :
  Gd (br (decide ((w.2.1.length:Int)>0)) ((gD F0 c w).bind fun d=>some (((10,a,0,d.1.1),()),d.2.1,())) (br ((w.2.2.2.1.length:Int)==0) (some (((2,a,0,0,0,(aj,0,aj,[]),(0,aj,[]),(0,aj,[]),0,0,0,0,0),()),c,())) ((bE F0 (w.2.2.2.1.length:Int) 4).bind fun f=>(au F0 c f.1).bind fun e=>some (((3,e.1.1,0,0,0,(aj,0,aj,[]),(0,aj,[]),(0,aj,[]),0,0,0,0,0),()),e.2.1,())))) fun z:DrT ed=>ag4 z.1.1/\Qu z.2.1 :=
 Gd.br (fun _=>Dr.bind (aEE b h) fun x g i=>Gd.ret ⟨⟨g,by simp[e4]⟩,i⟩) fun _=>afy h a b
def aDG {c:vO}(i:Qu c){w:ak}(h:aJ w):Dr (U:=ed) (pT F0 c w) ag4:=by
 have p:=h.le7;have q:=h.nl;unfold Dr;rw[Wy];refine aCk ?_;have m:vP (w.2.2.1.length:Int) 1=w.2.2.1.length:=by unfold vP;rw[af (by omega)]
 dsimp only;rw[m];refine Dr.bind (gl i (n:=(w.2.2.1.length:Int)) (by omega) (by omega)) fun x j k=>?_
 obtain⟨b,d⟩:=j;refine Dr.bind (gl k (n:=20) (by omega) (by omega)) fun y r a=>?_
 refine Gd.br (fun _=>anB h b d a) fun _=>Gd.br (fun _=>anB h b d a) fun _=>Gd.br (fun _=>anB h b d a) fun _=>Gd.br (fun _=>Wl h b d a) fun _=>Gd.br (fun _=>Wl h b d a) fun _=>Gd.br (fun _=>Wl h b d a) fun _=>Gd.br (fun _=>Wl h b d a) fun _=>Gd.br (fun _=>Gd.ret ⟨⟨HE,by simp[e4]⟩,a⟩) fun _=>Gd.br (fun _=>Gd.ret ⟨⟨HE,by simp[e4]⟩,a⟩) fun _=>Gd.br (fun _=>?_) fun _=>Gd.br (fun _=>?_) fun _=>Gd.br (fun _=>anC h _ a) fun _=>Gd.br (fun _=>anC h _ a) fun _=>Gd.br (fun _=>anC h _ a) fun _=>afy h _ a
 .refine Dr.bind (ajj a (n:=2) (by omega) (by omega)) fun z s g=>Gd.br (fun _=>?_) fun _=>?_
  .exact Dr.bind (ZZ g (l:=[0,0,5,40,9999]) (by decide) (by decide)) fun v f e=>Gd.ret ⟨⟨HE,by simp[e4]⟩,e⟩
  .refine Dr.bind (gl g (n:=2) (by omega) (by omega)) fun v f e=>aCk ?_
   have m0:0<vP (w.2.2.2.1.length:Int) 1:=by unfold vP;split<;>omega
   have m1:vP (w.2.2.2.1.length:Int) 1<=60:=by unfold vP;split<;>omega
   exact Dr.bind (gl e (n:=vP (w.2.2.2.1.length:Int) 1) m0 (by omega)) fun u t o=>Gd.ret ⟨⟨HE,by have A:=f.1;have B:=f.2;simp only[e4];rw[aF (by omega) (by omega)];simp;omega⟩,o⟩
 .exact Dr.bind (aqc a) fun v f e=>Gd.ret ⟨⟨⟨aQ _,e9,e9,e9⟩,by simp[e4]⟩,e⟩
def aCo {code:List Int}(h:code.length<=1048576):∃v:Int,Kz F0 code 70 140=some (v,())/\70<=v/\v<=140:=by
 have a:Int.tdiv (code.length:Int) 4=(code.length:Int)/4:=ao7 (by omega);rw[akL,a,aF (n:=(code.length:Int)/4) (by omega) (by omega),aF (by omega) (by omega)];by_cases g:70+(code.length:Int)/4>140
 .rw[aH g];exact⟨140,rfl,by omega,by omega⟩
 .rw[aK g];exact⟨70+(code.length:Int)/4,rfl,by omega,by omega⟩
def axJ {code:List Int}(h:code.length<=1048576):Gd (mU F0 code) fun z=>New z.1/\z.2.1.length<=140/\∀d∈z.2.1,ag4 d:=by
 rw[Zq];refine Gd.bind (aEv h) fun B r=>Dr.bind (aCj r) fun s i cs=>?_
 have j:=i.g;refine Gd.let (agT j.w) ?_;obtain⟨v,t,C,D⟩:=aCo h;refine Gd.let t (Dr.bind (gl cs (n:=v) (by omega) (by omega)) fun a f u=>?_);obtain⟨E,F⟩:=f;have key:∀(b k:Nat) (z:vO×(ak×List ed)) (n:Nat),(k:Int)+b=a.1.1->Qu z.1->aJ z.2.1->z.2.2.length<=k->(∀d∈z.2.2,ag4 d)->b<n->k<=140 ->
   Gd (oi F0 (rZ F0) n (kv a.1.1 (k:Int) 0 0 z.1.1 z.1.2.1 z.1.2.2 s.1.1.1.1 s.1.1.1.2 z.2.1.1.1 z.2.1.1.2 z.2.2 [] [] [] [] s.1.1.2.1 s.1.1.2.2.1 s.1.1.2.2.2.1 s.1.1.2.2.2.2 z.2.1.2.1 z.2.1.2.2.1 z.2.1.2.2.2.1 z.2.1.2.2.2.2)) fun z=>New z.1/\z.2.1.length<=140/\∀d∈z.2.1,ag4 d:=by
  intro b
  induction b with
  |zero =>
   intro k z n w l e o c f p;obtain⟨n,rfl⟩:∃m,n=m+1:=⟨n-1,by omega⟩;rw[yn,aK (show ¬(k:Int)<a.1.1 by omega),aa,SG];exact Gd.ret ⟨i,cj o p,c⟩
  |succ b y =>
   intro k z n w l e o c f p;obtain⟨n,rfl⟩:∃m,n=m+1:=⟨n-1,by omega⟩;rw[yn,aH (show(k:Int)<a.1.1 by omega),ae];refine Dr.bind (aDG l e) fun d q A=>Gd.ck (av (by omega) (by omega) (by simp only[aV,ba];omega)) (Gd.let (avA e q.1) ?_)
   rw[al (by omega)];exact y (k+1) (d.2.1,avz z.2.1 d.1.1,z.2.2++[d.1.1]) n (by omega) A (e.aGj _) (by rw[aL,dr];omega) (fun x g=>(kj.1 g).elim (c x) fun g=>by rw[ki.1 g];exact q) (by omega) (by omega)
 exact key a.1.1.toNat 0 (a.2.1,s.1.1,[]) F0.n (by omega) u j (bP _) (fun d c=>by cases c) (by rw[bH];omega) (by omega)
def aAq {code:List Int}(h:code.length<=1048576):Gd (mU F0 code) fun z=>New z.1/\z.2.1.length<=140/\∀d∈z.2.1,aFx d:=by obtain⟨z,e,a,b,c⟩:=axJ h;exact⟨z,e,a,b,fun d f=>(c d f).1⟩
end Go.Am.Tryz
