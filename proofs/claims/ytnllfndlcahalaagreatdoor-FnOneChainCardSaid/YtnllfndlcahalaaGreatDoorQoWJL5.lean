/- No condition. -/
import Derived.Test.YtnllfndlcahalaaGreatDoorQoWJL4
set_option linter.all false
namespace Go.Am.Tryz
open Go.Am
def aKk (r:aw)(p:bZ):Bool:= !di p.2.1&& !decide (p.1<r.2.1)
def iH (c:Int×Int)(r:aw)(p:bZ):aw×Bool :=
 if aKk r p=true/\(bq c r.2.2.2.2.2.1 p).2=true then ((fE c (fF r (bq c r.2.2.2.2.2.1 p).1) p.1 p.2.1 false).1,true) else (r,false)
def aY.aFt {c:Int×Int}{r:aw}(h:aY c r)(p:bZ):aY c (iH c r p).1:=by
 unfold iH;split
 .exact(h.fF (o0 h.f.t _)).axo _ _ _
 .exact h
def aHi {c:Int×Int}{p:bZ}(h:iu c p=true):uc p:=⟨(FZ h).1,by have:=(FZ h).2;omega⟩
def axs {c:Int×Int}{r:aw}(h:aY c r){p:bZ}(a:iu c p=true):DR F0 c r p=some ((iH c r p).1,(iH c r p).2,()):=by
 have e:=Jt (vU h.f.t) (FZ a) c;have b:=h.fF (o0 h.f.t p);have f:ba F0 (r.1,r.2.1,r.2.2.1,r.2.2.2.1,r.2.2.2.2.1,(bq c r.2.2.2.2.2.1 p).1,r.2.2.2.2.2.2)=some (fF r (bq c r.2.2.2.2.2.1 p).1,()):=dV b.bt;obtain⟨x,g,i⟩:=SU b p.1 (FZ a).1 false;rw[ahh,dV h.bt,ai,hU h.l,ai,h.ok,aN,aa,SB (aHi a),ai,a,aN,aa];simp only[ai,e,f,g];unfold iH aKk di;cases (p.2.1.toList==ak.toList)<;>cases decide (p.1<r.2.1)
 .cases j:(bq c r.2.2.2.2.2.1 p).2 with
  |false=>rfl
  |true =>
   rw[ag ⟨rfl,rfl⟩];cases d:(fE c (fF r (bq c r.2.2.2.2.2.1 p).1) p.1 p.2.1 false).2 with
   |true=>rw[i d];rfl|false=>rw[azO d];rfl
 .rfl
 .rfl
 .rfl
def as8 {c:Int×Int}{r:aw}(h:aY c r){p:bZ}(a:iu c p=true):Ez F0 c r p=some ((iH c r p).1,(iH c r p).2,()):=by
 have b:=ES (vU h.f.t) (FZ a) c;have d:=h.fF (o0 h.f.t p);have e:nS F0 c (r.1,r.2.1,r.2.2.1,r.2.2.2.1,r.2.2.2.2.1,(bq c r.2.2.2.2.2.1 p).1,r.2.2.2.2.2.2) p.1 p.2.1 false=some ((fE c (fF r (bq c r.2.2.2.2.2.1 p).1) p.1 p.2.1 false).1,(fE c (fF r (bq c r.2.2.2.2.2.1 p).1) p.1 p.2.1 false).2,()):=ada d p.1 (FZ a).1 false;rw[ahW,dR h.l,ai,h.ok,aN,aa,Oq (aHi a),ai,a,aN,aa,dW h.bt];simp only[ai,b,e];unfold iH aKk di;cases (p.2.1.toList==ak.toList)<;>cases decide (p.1<r.2.1)
 .cases f:(bq c r.2.2.2.2.2.1 p).2<;>rfl
 .rfl
 .rfl
 .rfl
def axt (q:bZ):Int:=GP 60 (aj (q.1+1))
def tu (c:Int×Int)(r:aw)(view:Int):Bool:=decide (b2 c view=r.1)&&decide (view>=r.2.1)
def Ma (l:Bool)(o:aw)(view:Int)(q:bZ):aw:=if l=true then tc (tc o (axt q)) view else tc o (axt q)
def ry (imp:Bool)(c:Int×Int)(r:aw)(view:Int)(q:bZ)(cv:Int)(o:aw):aw×Bool :=
 if tu c r view=true then
  if (bq c o.2.2.2.2.2.1 (one view ak cv)).2=true then
   (Ma (OH c (bq c o.2.2.2.2.2.1 (one view ak cv)).1 view) (fF o (bq c o.2.2.2.2.2.1 (one view ak cv)).1) view q,true)
  else (r,false)
 else (Ma (imp&&OH c o.2.2.2.2.2.1 view) o view q,true)
def iI (imp:Bool)(c:Int×Int)(r:aw)(view:Int)(q:bZ)(cv:Int):aw×Bool:=if (written c r q).2=true then ry imp c r view q cv (written c r q).1 else (r,false)
def Y2 {imp:Bool}{c:Int×Int}{r:aw}{view:Int}{q:bZ}{cv:Int}{o:aw}(h:tu c r view=false):ry imp c r view q cv o=(Ma (imp&&OH c o.2.2.2.2.2.1 view) o view q,true):=af (by rw[h];decide)
def aq1 {imp:Bool}{c:Int×Int}{r:aw}{view:Int}{q:bZ}{cv:Int}{o:aw}(h:tu c r view=true)(a:(bq c o.2.2.2.2.2.1 (one view ak cv)).2=false):ry imp c r view q cv o=(r,false):=by unfold ry;rw[ag h,af (by rw[a];decide)]
def aq2 {imp:Bool}{c:Int×Int}{r:aw}{view:Int}{q:bZ}{cv:Int}{o:aw}(h:tu c r view=true)(a:(bq c o.2.2.2.2.2.1 (one view ak cv)).2=true) :
  ry imp c r view q cv o=(Ma (OH c (bq c o.2.2.2.2.2.1 (one view ak cv)).1 view) (fF o (bq c o.2.2.2.2.2.1 (one view ak cv)).1) view q,true):=by
 unfold ry;rw[ag h,ag a]
def amV (x:Int):GP 60 x<=60:=by unfold GP;split<;>omega
def Y3 (x:Int):GP x 60=GP 60 x:=by unfold GP;split<;>split<;>omega
def aFu (a b c:Int):sY (sY a b) c=sY (sY a c) b:=by
 unfold sY
 repeat' split
 all_goals omega
def aY.Ma {c:Int×Int}{o:aw}(h:aY c o)(l:Bool){view:Int}(a:view<=60)(q:bZ):aY c (Ma l o view q):=by
 unfold Tryz.Ma;split
 .exact(h.raised (amV _)).raised a
 .exact h.raised (amV _)
def aY.ry {c:Int×Int}{r o:aw}(h:aY c r)(a:aY c o)(imp:Bool){view:Int}(b:view<=60)(q:bZ)(cv:Int):aY c (ry imp c r view q cv o).1:=by
 unfold Tryz.ry;split
 .split
  .exact(a.fF (o0 a.f.t _)).Ma _ b q
  .exact h
 .exact a.Ma _ b q
def aY.aFv {c:Int×Int}{r:aw}(h:aY c r)(imp:Bool){view:Int}(a:view<=60)(q:bZ)(cv:Int):aY c (iI imp c r view q cv).1:=by
 unfold iI;split
 .exact h.ry (h.w q) imp a q cv
 .exact h
def axu {c:Int×Int}{r:aw}(h:aY c r){view:Int}(m:gE 1 60 view=true){q:bZ}(e:eT c q=true){cv:Int}(n:gE 0 (aj (c.1-1)) cv=true) :
  DS F0 c r view q cv=some ((iI false c r view q cv).1,(iI false c r view q cv).2,()):=by
 have i:=Ph e;have d:aY c (written c r q).1:=h.w q;rw[ahj,dV h.bt,ai,hU h.l,ai,h.ok,aN,aa,cP,ai,m,aN,aa,SA i,ai,e,aN,aa,cP,ai,n,aN,aa,axd h.l.s i];simp only[ai];rw[SS h (aqT h q),ai];unfold iI;unfold written at d ⊢;generalize hY c r (SO c r.2.2.2.1 q)=W at d ⊢;obtain⟨a,o⟩:=W;dsimp only at d ⊢;cases o with
 |false=>rfl
 |true =>
  have p:fg F0 c a.2.2.2.2.2.1 (view,ak,[cv])=some ((bq c a.2.2.2.2.2.1 (one view ak cv)).1,(bq c a.2.2.2.2.2.1 (one view ak cv)).2,()):=Jt (vU d.f.t) ⟨aR _,by show 1<=1000;omega⟩ c;have j:=o0 d.f.t (one view ak cv);have s:=SP (l:=(bq c a.2.2.2.2.2.1 (one view ak cv)).1) (bY (vU j).1 (by omega)) (fun q e=>(vU j).l e) view ak;show _=some ((ry false c r view q cv a).1,(ry false c r view q cv a).2,());rw[ag rfl];simp only[ai,LV,p,s,acQ,C4,YZ,ae];by_cases f:b2 c view=r.1
  .rw[bf.2 f,ae];by_cases g:view>=r.2.1
   .have b:tu c r view=true:=by unfold tu;rw[aL f,aL g];rfl
    rw[aL g,ae];cases k:(bq c a.2.2.2.2.2.1 (one view ak cv)).2 with
    |false=>rw[aq1 b k];rfl
    |true =>
     rw[aq2 b k,aN,aa];unfold OH;cases t:decide (((dk (bq c a.2.2.2.2.2.1 (one view ak cv)).1 view ak).2.2.length:Int)>=Bp c) with
     |false=>rw[aa,Y3];rfl|true=>rw[ae,Y3,aFu];rfl
   .have b:tu c r view=false:=by unfold tu;rw[aQ g,adu]
    rw[Y2 b,aQ g,aa,Y3];rfl
  .have b:tu c r view=false:=by unfold tu;rw[aQ f,ZN]
   rw[Y2 b,bU.2 f,aa,Y3];rfl
def as9 {c:Int×Int}{r:aw}(h:aY c r){view:Int}(l:gE 1 60 view=true){q:bZ}(g:eT c q=true){cv:Int}(m:gE 0 (aj (c.1-1)) cv=true) :
  EA F0 c r view q cv=some ((iI true c r view q cv).1,(iI true c r view q cv).2,()):=by
 have i:=Ph g;have b:aY c (written c r q).1:=h.w q;rw[ahY,dR h.l,ai,h.ok,aN,aa,bR,ai,l,aN,aa,Rq i,ai,g,aN,aa,bR,ai,m,aN,aa,aqJ h.l.s i,dW h.bt];simp only[ai];rw[ac8 h (aqT h q),ai];unfold iI;unfold written at b ⊢;generalize hY c r (SO c r.2.2.2.1 q)=W at b ⊢;obtain⟨a,n⟩:=W;dsimp only at b ⊢;cases n with
 |false=>rfl
 |true =>
  have o:eK F0 c a.2.2.2.2.2.1 (view,ak,[cv])=some ((bq c a.2.2.2.2.2.1 (one view ak cv)).1,(bq c a.2.2.2.2.2.1 (one view ak cv)).2,()):=ES (vU b.f.t) ⟨aR _,by show 1<=1000;omega⟩ c;have p:=o0 b.f.t (one view ak cv);have s:(if 60<aj (q.1+1) then 60 else aj (q.1+1))=axt q:=rfl;have t:sK F0 c (a.1,(if axt q>a.2.1 then axt q else a.2.1,(a.2.2.1,a.2.2.2.1,a.2.2.2.2.1,(bq c a.2.2.2.2.2.1 (one view ak cv)).1,a.2.2.2.2.2.2))) view=some (OH c (bq c a.2.2.2.2.2.1 (one view ak cv)).1 view,()) :=
   aqW (r:=tc (fF a (bq c a.2.2.2.2.2.1 (one view ak cv)).1) (axt q)) ((b.fF p).raised (amV _)).l view
  have u:sK F0 c (a.1,(if axt q>a.2.1 then axt q else a.2.1,a.2.2)) view=some (OH c a.2.2.2.2.2.1 view,()):=aqW (r:=tc a (axt q)) (b.raised (amV _)).l view;show _=some ((ry true c r view q cv a).1,(ry true c r view q cv a).2,());rw[aN,aa,s];simp only[ai,JI,o,t,u];by_cases e:b2 c view=r.1
  .rw[bf.2 e,ae];by_cases f:view>=r.2.1
   .have d:tu c r view=true:=by unfold tu;rw[aL e,aL f];rfl
    rw[aL f,ae];cases j:(bq c a.2.2.2.2.2.1 (one view ak cv)).2 with
    |false=>rw[aq1 d j];rfl
    |true =>
     rw[aq2 d j,aN,aa];cases k:OH c (bq c a.2.2.2.2.2.1 (one view ak cv)).1 view<;>rfl
   .have d:tu c r view=false:=by unfold tu;rw[aQ f,adu]
    rw[Y2 d,aQ f,aa,en];cases k:OH c a.2.2.2.2.2.1 view<;>rfl
  .have d:tu c r view=false:=by unfold tu;rw[aQ e,ZN]
   rw[Y2 d,bU.2 e,aa,en];cases k:OH c a.2.2.2.2.2.1 view<;>rfl
def OI (r:aw)(p:List dG):aw:=(r.1,r.2.1,r.2.2.1,r.2.2.2.1,p,r.2.2.2.2.2)
def Yi (r:aw)(x:dG):aw×Bool:=(OI r (lR r.2.2.2.2.1 x).1,(lR r.2.2.2.2.1 x).2)
def aY.OI {c:Int×Int}{r:aw}(h:aY c r){p:List dG}(a:eW p=true):aY c (OI r p) :=
 ⟨⟨h.f.cf,h.f.i,h.f.v,h.f.a,h.f.s,a,h.f.t,h.f.d,h.f.n,h.f.h⟩,h.b⟩
def aY.aI5 {c:Int×Int}{r:aw}(h:aY c r)(x:dG):aY c (Yi r x).1:=h.OI (aB8 h.f.p x)
def aCc {l:List dG}{x:dG}(h:(lR l x).2=false):(lR l x).1=l:=by
 unfold lR at h ⊢;cases a:eW (ET x l) with
 |true=>rw[a,ag rfl]at h;cases h|false=>rfl
def aCd {c:Int×Int}{r:aw}(h:aY c r)(x:dG):M4 F0 c r x=some ((Yi r x).1,(Yi r x).2,()):=by
 have b:=(ac7 h.f.p).1;rw[aoH,dV h.bt,ai,hU h.l,ai,h.ok,aN,aa,azE (by omega),ai];unfold Yi;cases a:(lR r.2.2.2.2.1 x).2 with
 |true=>rfl|false=>rw[aCc a];rfl
def azR {c:Int×Int}{r:aw}(h:aY c r)(x:dG):N2 F0 c r x=some ((Yi r x).1,(Yi r x).2,()):=by have a:=(ac7 h.f.p).1;rw[apC,dW h.bt,ai,dR h.l,ai,h.ok,aN,aa,axi (by omega),ai];rfl
def ud (imp:Bool)(c:Int×Int)(r:aw)(m:b4):aw×Bool :=
 if m.1=1 then e8 c r m.2.2.1 else if m.1=2 then iH c r m.2.2.2.1 else if m.1=3 then iI imp c r m.2.1 m.2.2.2.2.1 m.2.2.2.2.2.1 else Yi r m.2.2.2.2.2.2
def Rz (r:aw):aw:=fF r (af5 r.2.2.2.2.2.1 (aj (r.2.1-1)))
def finish (c:Int×Int)(r:aw):aw:=OI (Rz r) (aqO r.2.2.2.2.1 (iS c (Rz r)))
def GQ (imp:Bool)(c:Int×Int)(r:aw)(m:b4):aw×Bool:=if c8 c m=true/\(ud imp c r m).2=true then (finish c (ud imp c r m).1,true) else (r,false)
def aY.Rz {c:Int×Int}{r:aw}(h:aY c r):aY c (Rz r):=h.fF (aqZ h.f.t _)
def aY.finish {c:Int×Int}{r:aw}(h:aY c r):aY c (finish c r):=h.Rz.OI (as7 h.f.p _)
def age (c:Int×Int)(r:aw):(iS c r).1.length<=4/\(iS c r).2.length<=4:=by
 unfold iS;split
 .have:=Jk L5 (xs:=Vf r.2.2.2.1.2.2.2);exact⟨Nat.le_of_eq this.1,Nat.le_of_eq this.2⟩
 .exact⟨aR _,aR _⟩
structure aLU (c:Int×Int) (m:b4):Prop where
 k:m.1=1\/m.1=2\/m.1=3\/m.1=4
 b:m.1=1->fB c m.2.2.1=true
 p:m.1=2->iu c m.2.2.2.1=true/\di m.2.2.2.1.2.1=false
 v:m.1=3->gE 1 60 m.2.1=true/\eT c m.2.2.2.2.1=true/\gE 0 (aj (c.1-1)) m.2.2.2.2.2.1=true
 t:m.1=4->gm m.2.2.2.2.2.2=true
 s:named m=m
def agf {c:Int×Int}{m:b4}(h:c8 c m=true):aLU c m:=by
 unfold c8 at h;simp only[aF]at h;obtain⟨i,g,a⟩:=h;have d:=ac1 g;by_cases b:m.1=1
 .rw[ag (by simpa using b)]at a;exact⟨.inl b,fun _=>a,fun h=>by omega,fun h=>by omega,fun h=>by omega,d⟩
 .by_cases e:m.1=2
  .rw[af (by simpa using b),ag (by simpa using e)]at a;simp only[aF,ai6]at a;exact⟨.inr (.inl e),fun h=>by omega,fun _=>a,fun h=>by omega,fun h=>by omega,d⟩
  .by_cases f:m.1=3
   .rw[af (by simpa using b),af (by simpa using e),ag (by simpa using f)]at a;simp only[aF]at a;exact⟨.inr (.inr (.inl f)),fun h=>by omega,fun h=>by omega,fun _=>a,fun h=>by omega,d⟩
   .rw[af (by simpa using b),af (by simpa using e),af (by simpa using f)]at a;simp only[aF,bf]at a;exact⟨.inr (.inr (.inr a.1)),fun h=>by omega,fun h=>by omega,fun h=>by omega,fun _=>a.2,d⟩
def aY.aCe {c:Int×Int}{r:aw}(h:aY c r)(imp:Bool){m:b4}(a:c8 c m=true):aY c (ud imp c r m).1:=by
 have b:=agf a;unfold ud;split
 .exact h.aq0 _
 .split
  .exact h.aFt _
  .split
   .rename_i d;have:=(b.v d).1;simp only[gE,aF,bW]at this;exact h.aFv imp this.2 _ _
   .exact h.aI5 _
def aY.heard {c:Int×Int}{r:aw}(h:aY c r)(imp:Bool)(m:b4):aY c (GQ imp c r m).1:=by
 unfold GQ;split
 .rename_i a;exact(h.aCe imp a.1).finish
 .exact h
def azS {c:Int×Int}{r:aw}(h:aY c r){m:b4}(b:c8 c m=true):ID F0 c r m=some ((ud false c r m).1,(ud false c r m).2,()):=by
 have a:=agf b;rw[alv];unfold ud;rcases a.k with k|k|k|k
 .rw[bf.2 k,ae,ag k,aby h (a.b k),ai]
 .rw[bU.2 (show m.1≠1 by omega),aa,bf.2 k,ae,af (by omega),ag k,axs h (a.p k).1,ai]
 .rw[bU.2 (show m.1≠1 by omega),aa,bU.2 (show m.1≠2 by omega),aa,bf.2 k,ae,af (by omega),af (by omega),ag k,axu h (a.v k).1 (a.v k).2.1 (a.v k).2.2,ai]
 .rw[bU.2 (show m.1≠1 by omega),aa,bU.2 (show m.1≠2 by omega),aa,bU.2 (show m.1≠3 by omega),aa,af (by omega),af (by omega),af (by omega),aCd h,ai]
def azT {c:Int×Int}{r:aw}(h:aY c r){m:b4}(e:fU m):Qj F0 c r m=some ((GQ false c r m).1,(GQ false c r m).2,()):=by
 rw[av2,hU h.l,ai,h.ok,aN,aa,JL e,ai,dV h.bt,ai];unfold GQ;cases d:c8 c m with
 |false=>rfl
 |true =>
  rw[azS h d,ai];have b:=h.aCe false d;generalize ud false c r m=X at b ⊢;obtain⟨a,ok⟩:=X;dsimp only at b ⊢;cases ok with
  |false=>rfl
  |true =>
   have f:KN F0 c (a.1,a.2.1,a.2.2.1,a.2.2.2.1,a.2.2.2.2.1,af5 a.2.2.2.2.2.1 (aj (a.2.1-1)),a.2.2.2.2.2.2)=some (iS c (Rz a),()):=aE9 b.Rz.l c;have i:=age c (Rz a);have g:=axk (p:=a.2.2.2.2.1) b.l.p (l:=iS c (Rz a)) (by omega) (by omega);rw[as1 b.l.t b.l.tq,ai,f,ai,g,ai];rfl
def auq {c:Int×Int}{r:aw}(h:aY c r){m:b4}(i:fU m):JF F0 c r m=some ((GQ true c r m).1,(GQ true c r m).2,()):=by
 rw[aws,LZ i,ai,dW h.bt,ai];unfold GQ;cases f:c8 c m with
 |false=>rfl
 |true =>
  have d:=agf f;have tail:∀a:aw,aY c a->∀ok:Bool,br (!ok) (some (r,false,())) ((gW F0 a.2.2.2.2.2.1 (aj (a.2.1-1))).bind fun g=>(lC F0 c (a.1,a.2.1,a.2.2.1,a.2.2.2.1,a.2.2.2.2.1,g.1,a.2.2.2.2.2.2)).bind fun j=>(jv F0 a.2.2.2.2.1 j.1).bind fun n=>some ((a.1,a.2.1,a.2.2.1,a.2.2.2.1,n.1,g.1,a.2.2.2.2.2.2),true,())) =
    some ((if true=true/\ok=true then (finish c a,true) else (r,false)).1,(if true=true/\ok=true then (finish c a,true) else (r,false)).2,()):=fun a b ok=>by
   cases ok with
   |false=>rfl
   |true =>
    have o:lC F0 c (a.1,a.2.1,a.2.2.1,a.2.2.2.1,a.2.2.2.2.1,af5 a.2.2.2.2.2.1 (aj (a.2.1-1)),a.2.2.2.2.2.2)=some (iS c (Rz a),()):=aqs b.Rz.l c;have s:=age c (Rz a);have q:=as3 (p:=a.2.2.2.2.1) b.l.p (l:=iS c (Rz a)) (by omega) (by omega);rw[aqM b.l.t b.l.tq,ai,o,ai,q,ai];rfl
  have b:=h.aCe true f;rw[aN,aa];rcases d.k with k|k|k|k
  .have e:ud true c r m=e8 c r m.2.2.1:=ag k;rw[e]at b ⊢;rw[bf.2 k,ae,Yh h (d.b k),ai];exact tail _ b _
  .have e:ud true c r m=iH c r m.2.2.2.1:=by unfold ud;rw[af (by omega),ag k]
   rw[e]at b ⊢;rw[bU.2 (show m.1≠1 by omega),aa,bf.2 k,ae,as8 h (d.p k).1,ai];exact tail _ b _
  .have e:ud true c r m=iI true c r m.2.1 m.2.2.2.2.1 m.2.2.2.2.2.1:=by unfold ud;rw[af (by omega),af (by omega),ag k]
   rw[e]at b ⊢;rw[bU.2 (show m.1≠1 by omega),aa,bU.2 (show m.1≠2 by omega),aa,bf.2 k,ae,as9 h (d.v k).1 (d.v k).2.1 (d.v k).2.2,ai];exact tail _ b _
  .have e:ud true c r m=Yi r m.2.2.2.2.2.2:=by unfold ud;rw[af (by omega),af (by omega),af (by omega)]
   rw[e]at b ⊢;rw[bU.2 (show m.1≠1 by omega),aa,bU.2 (show m.1≠2 by omega),aa,bU.2 (show m.1≠3 by omega),aa,azR h,ai];exact tail _ b _
def F1 (w:ah):(aE w).length<=w.2.2.1.length:=j3 _ _
def Y4 {U ζ γ:Type}(X:Nat->Int->ζ->Option γ)(a:List U)(f:ζ->U->ζ)(I:ζ->Prop)(R:Option γ)(b:ζ)(d:I b)(e:∀z x,x∈a->I z->I (f z x))
  (g:∀n k z (h:k<a.length),I z->X (n+1) (k:Int) z=X n ((k+1:Nat):Int) (f z a[k])) (i:∀n,X (n+1) (a.length:Int) (a.foldl f b)=R) (n:Nat) (j:a.length<n):X n 0 b=R:=by
 refine cu X a.length (fun k z=>z=(a.take k).foldl f b/\I z) R (fun n k z c h=>.inr ⟨_,g n k z c h.2,?_,e _ _ (bP c) h.2⟩) (fun n z h=>?_) n 0 b (aR _) ⟨rfl,d⟩ (by omega)
 .rw[ee c,List.foldl_append,h.1];rfl
 .rw[h.1,kc];exact i n
def isSaid (view:Int)(name:ByteArray)(cv:Int)(y:cI):Bool:=(y.1==view)&&((y.2.1.toList==name.toList)&&(y.2.2==cv))
def kb (l:List cI)(view:Int)(name:ByteArray)(cv:Int):Bool:=l.any (isSaid view name cv)
def azU {U:Type}{p:U->Bool}{l:List U}{k:Nat}(a:k<l.length):(l.drop k).any p=(p l[k] || (l.drop (k+1)).any p):=by rw[Vi a,List.any_cons]
def aq3 {l:List cI}(h:l.length<=1048576)(view:Int)(name:ByteArray)(cv:Int):Fm F0 l view name cv=some (kb l view name cv,()):=by
 rw[aoL];refine cu (fun n k (z:Unit)=>oR F0 (u5 F0) n (kr l view name cv k)) l.length (fun k _=>kb l view name cv=(l.drop k).any (isSaid view name cv)) _ (fun n k z b a=>?_) (fun n z a=>?_) F0.n 0 () (aR _) rfl (by rw[bz];omega)
 .rw[azU b]at a;rw[KP,aM b,ae,an b,ab,ab,ab,aV b,ahn,al (by omega),a];unfold isSaid;cases c:(l[k].1==view) with
  |false=>exact .inr ⟨(),aa _ _,rfl⟩
  |true =>
   cases d:(l[k].2.1.toList==name.toList) with
   |false=>exact .inr ⟨(),by rw[ae,aa],rfl⟩
   |true =>
    cases e:(l[k].2.2==cv) with
    |false=>exact .inr ⟨(),by rw[ae,ae,aa],rfl⟩
    |true=>exact .inl rfl
 .rw[Vl]at a;rw[KP,aB,aa,aez,a];rfl
def aI6 {l:List cI}(h:l.length<=1048576)(x:cI):∃r,YH F0 l x=some (r,())/\decide (r>=0)=kb l x.1 x.2.1 x.2.2:=by
 rw[awg];have key:∀(a k n:Nat),k+a=l.length->a<n->∃r,NJ F0 (Es F0) n (Er l (l.length:Int) (k:Int) x.1 x.2.1 x.2.2)=some (r,())/\decide (r>=0)=(l.drop k).any (isSaid x.1 x.2.1 x.2.2):=by
  intro a
  induction a with
  |zero =>
   intro k n c d;obtain⟨n,rfl⟩:∃m,n=m+1:=⟨n-1,by omega⟩;obtain rfl:k=l.length:=by omega
   rw[QM,aB,aa,al3,Vl];exact⟨-1,rfl,rfl⟩
  |succ a f =>
   intro k n c d;obtain⟨n,rfl⟩:∃m,n=m+1:=⟨n-1,by omega⟩;have b:k<l.length:=by omega
   have e:((x.1==l[k].1)&&((x.2.1.toList==l[k].2.1.toList)&&((x.2.2==l[k].2.2)&&true)))=isSaid x.1 x.2.1 x.2.2 l[k]:=by unfold isSaid;rw[agw,show(x.1==l[k].1)=(l[k].1==x.1) from td,show(x.2.1.toList==l[k].2.1.toList)=(l[k].2.1.toList==x.2.1.toList) from td,show(x.2.2==l[k].2.2)=(l[k].2.2==x.2.2) from td]
   rw[QM,aM b,ae,an b,ab,aV b,e,apq,al (by omega),azU b];cases g:isSaid x.1 x.2.1 x.2.2 l[k]with
   |true=>exact⟨(k:Int),ae _ _,by rw[aL (show(k:Int)>=0 by omega)];rfl⟩
   |false =>
    rw[aa,JT];exact f (k+1) n (by omega) (by omega)
 exact key l.length 0 F0.n (by omega) (by rw[bz];omega)
def C6 {l:List cI}(h:l.length<=1048576)(x:cI):c9 F0 l x=some (kb l x.1 x.2.1 x.2.2,()):=by obtain⟨r,a,b⟩:=aI6 h x;rw[GJ,a,ai,b]
def RA (liars:List Int)(l:List cI)(view:Int)(name:ByteArray)(i:Int):Bool:=decide (i∈liars) || kb l view name i
def signed (liars:List Int)(l:List cI)(view:Int)(name:ByteArray)(cv:List Int):Bool:=cv.all (RA liars l view name)
def ade {liars:List Int}(c:liars.length<=1048576){l:List cI}(b:l.length<=1048576)(view:Int)(name:ByteArray){cv:List Int}(d:cv.length<=1048576):wX F0 liars l view name cv=some (signed liars l view name cv,()):=by
 rw[aoM,ej (fun m k=>tJ F0 (u6 F0) m (oq liars l view name cv k)) cv.length (fun k=>RA liars l view name (cv.getD k 0)) (some (true,())) (some (false,())) (fun m k a=>?_) (fun m=>?_) _ (by rw[bz];omega),LS,oG]
 .rfl
 .rw[KQ,aM a,ae,an a,ab,ab,aV a,fy (by omega),ai,aq3 b,ai,aho,al (by omega),aI a];unfold RA;cases decide (cv[k]∈liars)<;>cases kb l view name cv[k]<;>rfl
 .rw[KQ,aB,aa,aeA]
def Yj {liars:List Int}(c:liars.length<=1048576){l:List cI}(b:l.length<=1048576)(view:Int)(name:ByteArray){cv:List Int}(d:cv.length<=1048576):w5 F0 liars l view name cv=some (signed liars l view name cv,()):=by
 rw[apG,ej (fun m k=>tY F0 (vE F0) m (oC liars l view name cv (cv.length:Int) k)) cv.length (fun k=>RA liars l view name (cv.getD k 0)) (some (true,())) (some (false,())) (fun m k a=>?_) (fun m=>?_) _ (by rw[bz];omega),LS,oG]
 .rfl
 .rw[LC,aM a,ae,an a,ab,aV a,eA (by omega),ai,C6 b,ai,ah5,al (by omega),aI a];unfold RA;cases decide (cv[k]∈liars)<;>cases kb l view name cv[k]<;>rfl
 .rw[LC,aB,aa,afk]
def Ju (liars:List Int)(l:List cI)(q:bZ):Bool:=signed liars l q.1 q.2.1 q.2.2
def GR (c:Int×Int)(liars:List Int)(l:List cI)(m:b4):Bool :=
 c8 c m&&(if m.1=1 then decide (b2 c (aC m.2.2.1.1.data.toList)∈liars)&&Ju liars l m.2.2.1.2 else if m.1=2 then Ju liars l m.2.2.2.1 else if m.1=3 then decide (m.2.2.2.2.2.1∈liars)&&Ju liars l m.2.2.2.2.1 else true)
def aCf {c:Int×Int}{liars:List Int}(f:liars.length<=1048576){l:List cI}(g:l.length<=1048576){m:b4}(a:fU m):M6 F0 c liars l m=some (GR c liars l m,()):=by
 rw[aoO,JL a,ai,oW a.1,ai,LV,ai,fy (by omega),ai,ade f g _ _ a.2.1.2,ai,ade f g _ _ a.2.2.1.2,ai,fy (by omega),ai,ade f g _ _ a.2.2.2.2,ai];unfold GR;cases c8 c m with
 |false=>rfl
 |true =>
  rw[aN,aa,en];by_cases b:m.1=1
  .rw[bf.2 b,ae,ag b];dsimp only;cases decide (b2 c (aC m.2.2.1.1.data.toList)∈liars)<;>rfl
  .rw[bU.2 b,aa,af b];by_cases d:m.1=2
   .rw[bf.2 d,ae,ag d];rfl
   .rw[bU.2 d,aa,af d];by_cases e:m.1=3
    .rw[bf.2 e,ae,ag e];dsimp only;cases decide (m.2.2.2.2.2.1∈liars)<;>rfl
    .rw[bU.2 e,aa,af e]
def axv:se F0=some (b9,()):=by rw[T4];rfl
def agh {liars:List Int}{l:List cI}{q:bZ}{U:Type}(f:Bool->U):br (gn q b9) (some (f true)) (some (f (Ju liars l q)))=some (f (Ju liars l q)):=by
 cases h:gn q b9 with
 |false=>rfl
 |true =>
  have:=Ru h;subst this;rfl
def azV {c:Int×Int}{liars:List Int}(d:liars.length<=1048576){l:List cI}(e:l.length<=1048576){m:b4}(a:fU m):N7 F0 c liars l m=some (GR c liars l m,()):=by
 rw[apI,LZ a,ai,rq a.1,ai,JI,ai,eA (by omega),ai,axv,ai,LY a.2.1,ai,Yj d e _ _ a.2.1.2,ai,Yj d e _ _ a.2.2.1.2,ai,eA (by omega),ai,ai,LY a.2.2.2,ai,Yj d e _ _ a.2.2.2.2,ai];dsimp only;have f1:=agh (liars:=liars) (l:=l) (q:=m.2.2.1.2) (fun b=>(b,()));have f2:=agh (liars:=liars) (l:=l) (q:=m.2.2.2.2.1) (fun b=>(b,()));unfold Ju at f1 f2;rw[f1,f2];unfold GR;cases dd:c8 c m with
 |false=>rfl
 |true =>
  rw[aN,aa,en];rcases(agf dd).k with k|k|k|k
  .rw[bU.2 (show m.1≠4 by omega),aa,bU.2 (show m.1≠2 by omega),aa,bf.2 k,ae,ag k];unfold Ju;cases decide (b2 c (aC m.2.2.1.1.data.toList)∈liars)<;>rfl
  .rw[bU.2 (show m.1≠4 by omega),aa,bf.2 k,ae,af (by omega),ag k];rfl
  .rw[bU.2 (show m.1≠4 by omega),aa,bU.2 (show m.1≠2 by omega),aa,bU.2 (show m.1≠1 by omega),aa,af (by omega),af (by omega),ag k];unfold Ju;cases decide (m.2.2.2.2.2.1∈liars)<;>rfl
  .rw[bf.2 k,ae,af (by omega),af (by omega),af (by omega)]
def UT (id:Int)(q:bZ):List cI:=if di q.2.1=true then [] else if id∈q.2.2 then [(q.1,q.2.1,id)] else []
def cG (id:Int)(m:b4):List cI:=if m.1=4 then [] else if m.1=2 then UT id m.2.2.2.1 else if m.1=1 then UT id m.2.2.1.2 else UT id m.2.2.2.2.1
def RB (id:Int)(q:bZ):br (q.2.1.toList==ak.toList) (some (([]:List cI),())) (br (!decide (id∈q.2.2)) (some ([],())) (some ([(q.1,q.2.1,id)],())))=some (UT id q,()):=by
 unfold UT di;cases (q.2.1.toList==ak.toList) with
 |true=>rfl
 |false =>
  by_cases h:id∈q.2.2
  .rw[aL h,af (by decide),ag h];rfl
  .rw[aQ h,af (by decide),af h];rfl
def aCg {m:b4}(d:fU m)(id:Int):Nd F0 id m=some (cG id m,()):=by
 rw[aoV,fy (bY d.2.2.1.2 (by omega)),ai,fy (bY d.2.1.2 (by omega)),ai,fy (bY d.2.2.2.2 (by omega)),ai];dsimp only;rw[RB id m.2.2.2.1,RB id m.2.2.1.2,RB id m.2.2.2.2.1];unfold cG;by_cases a:m.1=4
 .rw[ag a,bU.2 (show m.1≠2 by omega),aa,bU.2 (show m.1≠1 by omega),aa,bf.2 a,ae]
 .rw[af a,bU.2 a,aa,aa,aa];by_cases b:m.1=2
  .rw[ag b,bf.2 b,ae]
  .rw[af b,bU.2 b,aa];by_cases c:m.1=1
   .rw[ag c,bf.2 c,ae]
   .rw[af c,bU.2 c,aa]
def akq {m:b4}(d:fU m)(id:Int):FA F0 id m=some (cG id m,()):=by
 rw[apo,eA (bY d.2.2.1.2 (by omega)),ai,eA (bY d.2.1.2 (by omega)),ai,eA (bY d.2.2.2.2 (by omega)),ai];dsimp only;rw[RB id m.2.2.2.1,RB id m.2.2.1.2,RB id m.2.2.2.2.1];unfold cG;by_cases a:m.1=4
 .rw[ag a,bf.2 a,ae]
 .rw[af a,bU.2 a,aa];by_cases b:m.1=2
  .rw[ag b,bf.2 b,ae]
  .rw[af b,bU.2 b,aa];by_cases c:m.1=1
   .rw[ag c,bf.2 c,ae]
   .rw[af c,bU.2 c,aa]
def adf (id:Int)(m:b4):(cG id m).length<=1:=by
 have a:∀q:bZ,(UT id q).length<=1:=fun q=>by
  unfold UT;split
  .exact aR _
  .split
   .exact bF _
   .exact aR _
 unfold cG;split
 .exact aR _
 .split
  .exact a _
  .split
   .exact a _
   .exact a _
def C7 (l:List cI)(x:cI):List cI:=if l.length<300/\kb l x.1 x.2.1 x.2.2=false then l++[x] else l
def aCh (id:Int)(l:List cI)(p:jw):List cI:=(cG id p.2).foldl C7 l
def Y5 (id:Int)(list:List jw)(l:List cI):List cI:=list.foldl (aCh id) l
def oI (w:ah)(id:Int)(list:List jw):ah:=if id∈aE w then (w.1,w.2.1,w.2.2.1,w.2.2.2.1,Y5 id list w.2.2.2.2) else w
def adg {l:List cI}(h:l.length<=300)(x:cI):(C7 l x).length<=300:=by
 unfold C7;split
 .rename_i a;rw[aJ,cR];omega
 .exact h
def agi:∀{xs:List cI} {l:List cI},l.length<=300->(xs.foldl C7 l).length<=300
 |[],_,h=>h|x::xs,l,h=>agi (xs:=xs) (adg h x)
def akr (id:Int):∀{list:List jw} {l:List cI},l.length<=300->(Y5 id list l).length<=300
 |[],_,h=>h|p::list,l,h=>akr id (list:=list) (agi h)
def aFw {w:ah}(h:Pg w)(j:w.2.2.2.2.length<=300)(id:Int){list:List jw}(o:list.length<=1048576)(l:∀p∈list,fU p.2):KT F0 w id list=some (oI w id list,()):=by
 rw[asm,akl h,ai,aqm h.l,ai,fy (by have:=F1 w;have:=h.l.r;dsimp only;omega),ai];unfold oI;by_cases b:id∈aE w
 .rw[aL b,ag b,aN,aa];refine Y4 (fun n k z=>IF F0 (z8 F0) n (z7 id list k 0 0 w.1.1 w.1.2 [] [] [] [] w.2.1 w.2.2.1 w.2.2.2.1 z)) list (aCh id) (fun z=>z.length<=300) _ w.2.2.2.2 j (fun z p q d=>agi d) (fun n k z c d=>?_) (fun n=>?_) _ (by rw[bz];omega)
  .rw[Ng,aM c,ae,an c,ab,aV c,aCg (l _ (bP c)),ai];have r:=adf id list[k].2;refine Y4 (fun m a (y:List cI)=>r9 F0 (KS F0 (z8 F0) n) m (mq id list (k:Int) a 0 0 w.1.1 w.1.2 (cG id list[k].2) [] [] [] [] w.2.1 w.2.2.1 w.2.2.2.1 y)) (cG id list[k].2) C7 (fun y=>y.length<=300) _ z d (fun y x s g=>adg g x) (fun m a y e g=>?_) (fun m=>?_) _ (by rw[bz];omega)
   .rw[Nf,aM e,ae,an e,ab,aV e,aq3 (by omega),ai,ar (by omega) (by omega) (by first|omega|(simp only[aJ,aW,bm];omega)|(rw[bc,bB];omega)),ab,al (by omega)];unfold C7;by_cases i:y.length<300
    .rw[aL (show(y.length:Int)<300 by omega),ae];cases kb y (cG id list[k].2)[a].1 (cG id list[k].2)[a].2.1 (cG id list[k].2)[a].2.2 with
     |true=>rw[af (fun f=>by cases f.2)];rfl
     |false=>rw[ag ⟨i,rfl⟩];rfl
    .rw[aQ (show ¬(y.length:Int)<300 by omega),aa,af (fun f=>i f.1)]
   .rw[Nf,aB,aa,ahr,al (by omega)];rfl
  .rw[Ng,aB,aa,ahs];rfl
 .rw[aQ b,af b];rfl
def aCi {w:ah}(h:Pg w)(j:w.2.2.2.2.length<=300)(id:Int){list:List jw}(o:list.length<=1048576)(l:∀p∈list,fU p.2):Sf F0 w id list=some (oI w id list,()):=by
 rw[asA,lD h,ai,ng h.l,ai,eA (by have:=F1 w;have:=h.l.r;dsimp only;omega),ai];unfold oI;by_cases b:id∈aE w
 .rw[aL b,ag b,aN,aa];refine Y4 (fun n k z=>IY F0 (AI F0) n (AH id list (list.length:Int) k 0 0 w.1.1 w.1.2 [] [] [] [] w.2.1 w.2.2.1 w.2.2.2.1 z)) list (aCh id) (fun z=>z.length<=300) _ w.2.2.2.2 j (fun z p q d=>agi d) (fun n k z c d=>?_) (fun n=>?_) _ (by rw[bz];omega)
  .rw[NL,aM c,ae,an c,ab,aV c,akq (l _ (bP c)),ai];have r:=adf id list[k].2;refine Y4 (fun m a (y:List cI)=>sz F0 (Lj F0 (AI F0) n) m (mJ id list (list.length:Int) (k:Int) ((cG id list[k].2).length:Int) a 0 0 w.1.1 w.1.2 (cG id list[k].2) [] [] [] [] w.2.1 w.2.2.1 w.2.2.2.1 y)) (cG id list[k].2) C7 (fun y=>y.length<=300) _ z d (fun y x s g=>adg g x) (fun m a y e g=>?_) (fun m=>?_) _ (by rw[bz];omega)
   .rw[NK,aM e,ae,an e,ab,aV e,C6 (by omega),ai,ar (by omega) (by omega) (by first|omega|(simp only[aJ,aW,bm];omega)|(rw[bc,bB];omega)),ab,al (by omega)];unfold C7;by_cases i:y.length<300
    .rw[aL (show(y.length:Int)<300 by omega),ae];cases kb y (cG id list[k].2)[a].1 (cG id list[k].2)[a].2.1 (cG id list[k].2)[a].2.2 with
     |true=>rw[af (fun f=>by cases f.2)];rfl
     |false=>rw[ag ⟨i,rfl⟩];rfl
    .rw[aQ (show ¬(y.length:Int)<300 by omega),aa,af (fun f=>i f.1)];cases kb y (cG id list[k].2)[a].1 (cG id list[k].2)[a].2.1 (cG id list[k].2)[a].2.2<;>rfl
   .rw[NK,aB,aa,ahM,al (by omega)];rfl
  .rw[NL,aB,aa,ahN];rfl
 .rw[aQ b,af b];rfl
def abz (c:Int×Int)(a:List gr)(p:jw):List gr:=if a.length<60/\c8 c p.2=true/\gE 0 (aj (c.1-1)) p.1=true then a++[(p.1,C3 p.2)] else a
def aq4 (c:Int×Int)(list:List jw)(a:List gr):List gr:=list.foldl (abz c) a
def Bv (w:ah)(list:List jw):ah:=(w.1,w.2.1,w.2.2.1,aq4 w.1 list w.2.2.2.1,w.2.2.2.2)
def aiR {c:Int×Int}{a:List gr}(h:a.length<=60)(p:jw):(abz c a p).length<=60:=by
 unfold abz;split
 .rename_i b;rw[aJ,cR];omega
 .exact h
def aur (c:Int×Int)(m:b4):decide (((af1 c m).length:Int)>0)=c8 c m:=by
 unfold af1;cases h:c8 c m with
 |false=>rfl
 |true =>
  have:=(aqG h).2.2;rw[ag rfl];exact aL (by omega)
def aks {w:ah}(e:w.2.2.2.1.length<=60){list:List jw}(h:list.length<=1048576)(f:∀p∈list,fU p.2):zU F0 w list=some ((Bv w list,()),()):=by
 rw[alz];refine Y4 (fun n k z=>jR F0 (Cx F0) n (ga list k w.1.1 w.1.2 0 0 w.2.1 w.2.2.1 z w.2.2.2.2 [] [] [] [])) list (abz w.1) (fun z=>z.length<=60) _ w.2.2.2.1 e (fun z p i c=>aiR c p) (fun n k z b c=>?_) (fun n=>?_) _ (by rw[bz];omega)
 .rw[Hj,aM b,ae,an b,ab,aV b,show((w.1.1,w.1.2):Int×Int)=w.1 from rfl,axa (f _ (bP b)),ai,ab,cP,ai,ab,ar (by omega) (by omega) (by first|omega|(simp only[aJ,aW,bm];omega)|(rw[bc,bB];omega)),ab,al (by omega)];dsimp only;rw[aur];unfold abz;by_cases d:z.length<60
  .rw[aL (show(z.length:Int)<60 by omega),ae];cases g:c8 w.1 list[k].2 with
   |false=>rw[af (fun a=>by cases a.2.1)];rfl
   |true =>
    cases j:gE 0 (aj (w.1.1-1)) list[k].1 with
    |false=>rw[af (fun a=>by cases a.2.2)];rfl
    |true=>rw[ag ⟨d,rfl,rfl⟩,ae,ae,show af1 w.1 list[k].2=C3 list[k].2 from ag g]
  .rw[aQ (show ¬(z.length:Int)<60 by omega),aa,af (fun a=>d a.1)]
 .rw[Hj,aB,aa,ach];rfl
def aFx {w:ah}(h:Pg w)(e:w.2.2.2.1.length<=60){list:List jw}(i:list.length<=1048576)(f:∀p∈list,fU p.2):QP F0 w list=some (if eC w=true then Bv w list else w,()):=by
 rw[awi,lD h,ai,eP h.l,ai];cases dd:eC w with
 |false=>rfl
 |true =>
  rw[aN,aa,ag rfl];refine Y4 (fun n k z=>ra F0 (O4 F0) n (lA list (list.length:Int) k w.1.1 w.1.2 w.2.1 w.2.2.1 w.2.2.2.1 w.2.2.2.2 0 0 w.1.1 w.1.2 [] [] [] [] w.2.1 w.2.2.1 z w.2.2.2.2)) list (abz w.1) (fun z=>z.length<=60) _ w.2.2.2.1 e (fun z p j c=>aiR c p) (fun n k z b c=>?_) (fun n=>?_) _ (by rw[bz];omega)
  .rw[QO,aM b,ae,an b,ab,aV b,show((w.1.1,w.1.2):Int×Int)=w.1 from rfl,abu (f _ (bP b)),ai,bR,ai,ar (by omega) (by omega) (by first|omega|(simp only[aJ,aW,bm];omega)|(rw[bc,bB];omega)),ab,al (by omega)];dsimp only;rw[aur];unfold abz;cases g:c8 w.1 list[k].2 with
   |false=>rw[af (fun a=>by cases a.2.1)];rfl
   |true =>
    cases l:gE 0 (aj (w.1.1-1)) list[k].1 with
    |false=>rw[af (fun a=>by cases a.2.2)];rfl
    |true =>
     by_cases d:z.length<60
     .rw[aL (show(z.length:Int)<60 by omega),ag ⟨d,rfl,rfl⟩,show af1 w.1 list[k].2=C3 list[k].2 from ag g];rfl
     .rw[aQ (show ¬(z.length:Int)<60 by omega),af (fun a=>d a.1)];rfl
  .rw[QO,aB,aa,al7];rfl
def amW {c:Int×Int}{r:aw}{a:Int}{m:b4}:(lK c r a m).1.1=r.1:=by unfold lK;split<;>rfl
def aHj {c:Int×Int}{r:aw}{q:bZ}:(pR c r q).1.1=r.1:=by
 have h:(written c r q).1.1=r.1:=af8;unfold pR;split
 .split
  .exact h
  .split
   .exact h
   .rw[amW];exact h
 .rfl
def aq5 {c:Int×Int}{r:aw}{view:Int}{name:ByteArray}{a:Bool}:(fE c r view name a).1.1=r.1:=by
 unfold fE;split
 .rfl
 .split
  .split
   .exact aHj
   .rfl
  .split
   .rfl
   .exact amW
def aKl {c:Int×Int}{r:aw}{name:ByteArray}:(own c r name).1.1=r.1:=by
 unfold own;split
 .rw[aq5];rfl
 .rfl
def aHk {r:aw}{b:cq}:(jy r b).1=r.1:=by unfold jy;split<;>rfl
def agj {c:Int×Int}{r:aw}{b:cq}:(e8 c r b).1.1=r.1:=by
 have h:(hY c (jy r b) (tt c r b)).1.1=r.1:=by rw[af8,aHk]
 unfold e8 B0;split
 .split
  .split
   .rw[aKl];exact h
   .rfl
  .exact h
 .rfl
def azW {c:Int×Int}{r:aw}{p:bZ}:(iH c r p).1.1=r.1:=by
 unfold iH;split
 .rw[aq5];rfl
 .rfl
def azX {imp:Bool}{c:Int×Int}{r:aw}{view:Int}{q:bZ}{cv:Int}:(iI imp c r view q cv).1.1=r.1:=by
 have h:(written c r q).1.1=r.1:=af8;have b:∀(l:Bool) (a:aw),(Ma l a view q).1=a.1:=fun l a=>by unfold Ma;split<;>rfl
 unfold iI ry;split
 .split
  .split
   .rw[b];exact h
   .rfl
  .rw[b];exact h
 .rfl
def aHl {imp:Bool}{c:Int×Int}{r:aw}{m:b4}:(ud imp c r m).1.1=r.1:=by
 unfold ud;split
 .exact agj
 .split
  .exact azW
  .split
   .exact azX
   .rfl
def axw {imp:Bool}{c:Int×Int}{r:aw}{m:b4}:(GQ imp c r m).1.1=r.1:=by
 unfold GQ;split
 .exact aHl (imp:=imp)
 .rfl
def aHm {c:Int×Int}{r:aw}:(BZ c r).1.1=r.1:=by
 unfold BZ;split
 .rfl
 .split
  .split
   .rfl
   .rfl
  .split
   .rw[amW];rfl
   .rfl
def aiS {c:Int×Int}{r:aw}{m:b4}:∀(j k:Nat) (o:aw),o.1=r.1->(rv c r m j k o).1.1=r.1
 |0,_,_,h=>h|j+1,k,o,h=>by
  unfold rv;split
  .exact aiS j (k+1) o h
  .split
   .exact aiS j (k+1) _ (by rw[amW];exact h)
   .rfl
def F2 (r:aw):aw:=(r.1,r.2.1,r.2.1,r.2.2.2)
def aY.F2 {c:Int×Int}{r:aw}(h:aY c r):aY c (F2 r):=by have a:=h.view;exact⟨⟨h.f.cf,h.f.i,h.f.v,by show gE 0 60 r.2.1=true;simp only[gE,aF,bW];omega,h.f.s,h.f.p,h.f.t,h.f.d,h.f.n,h.f.h⟩,h.b⟩
def aiT (c:Int×Int)(r:aw):aw×Bool:=SV c (F2 r) (aqS (ask c r).1)
def Yk (c:Int×Int)(r:aw):aw×Int :=
 if (ask c r).2=true then (if (aiT c r).2=true/\(e8 c (aiT c r).1 (ask c r).1).2=true then ((e8 c (aiT c r).1 (ask c r).1).1,0) else (r,4)) else (r,3)
def aCj {c:Int×Int}{r:aw}(h:aY c r):aY c (aiT c r).1:=h.F2.aI2 _
def aY.Yk {c:Int×Int}{r:aw}(h:aY c r):aY c (Yk c r).1:=by
 unfold Tryz.Yk;split
 .split
  .exact(aCj h).aq0 _
  .exact h
 .exact h
def aI7 {c:Int×Int}{r:aw}:(Yk c r).1.1=r.1:=by
 unfold Yk;split
 .split
  .rw[agj];exact aiS _ _ _ rfl
  .rfl
 .rfl
def azY {c:Int×Int}{r:aw}(h:aY c r):Je F0 c r=some ((Yk c r).1,(Yk c r).2,()):=by
 rw[amp,aHe h,ai,dW h.bt,ai];unfold Yk;cases d:(ask c r).2 with
 |false=>rfl
 |true =>
  obtain⟨_,b,_,_⟩:=aHf d;obtain⟨e,f⟩:=JO b;have g:Ba F0 c (r.1,r.2.1,r.2.1,r.2.2.2) (1,0,(ask c r).1,(0,ak,[]),(0,ak,[]),0,0,0,0,0)=some ((aiT c r).1,(aiT c r).2,()):=axr h.F2 (ac9 e f);dsimp only;rw[g,ai,Yh (aCj h) b,ai,aN,aa,ag rfl];cases (aiT c r).2 with
  |false=>rw[af (fun a=>by cases a.1)];rfl
  |true =>
   cases (e8 c (aiT c r).1 (ask c r).1).2 with
   |false=>rw[af (fun a=>by cases a.2)];rfl
   |true=>rw[ag ⟨rfl,rfl⟩];rfl
def tv (c:Int×Int)(r:aw):Nat->aw×Int
 |0=>(r,3)|k+1=>if di (r.2.2.2.2.2.1.getD k b9).2.1=true then tv c r k
  else if (fE c r (r.2.2.2.2.2.1.getD k b9).1 (r.2.2.2.2.2.1.getD k b9).2.1 true).2=true then ((fE c r (r.2.2.2.2.2.1.getD k b9).1 (r.2.2.2.2.2.1.getD k b9).2.1 true).1,0) else (r,3)
def aus (c:Int×Int)(r:aw):aw×Int:=tv c r r.2.2.2.2.2.1.length
def azZ {c:Int×Int}{r:aw}(h:aY c r):∀k,aY c (tv c r k).1
 |0=>h|k+1=>by
  unfold tv;split
  .exact azZ h k
  .split
   .exact h.axo _ _ _
   .exact h
def aut {c:Int×Int}{r:aw}:∀k,(tv c r k).1.1=r.1
 |0=>rfl|k+1=>by
  unfold tv;split
  .exact aut k
  .split
   .exact aq5
   .rfl
def auu {c:Int×Int}{r:aw}(h:aY c r):∀(k n:Nat),k<=r.2.2.2.2.2.1.length->k<n ->
  vL F0 (pN F0) n (pM ((k:Int)-1) c.1 c.2 r.1 r.2.1 r.2.2.1 r.2.2.2.1.1 r.2.2.2.1.2.1 r.2.2.2.1.2.2.1.1 r.2.2.2.1.2.2.1.2.1 r.2.2.2.1.2.2.1.2.2 r.2.2.2.1.2.2.2 r.2.2.2.2.1 r.2.2.2.2.2.1 r.2.2.2.2.2.2.1.1 r.2.2.2.2.2.2.1.2 r.2.2.2.2.2.2.2 0 0 0 0 0 0 ak ak 0 [] [] [] [] [])
   = some ((tv c r k).1,(tv c r k).2,())
 |0,n+1,b,d=>by rw[FK,aQ (show ¬((0:Nat):Int)-1>=0 by omega),aa,Zy];rfl
 |k+1,n+1,b,d=>by
  have a:k<r.2.2.2.2.2.1.length:=by omega
  have f:=h.f.l.t;have e:=ada h (r.2.2.2.2.2.1[k]).1 (h.l.tq _ (bP a)).1 true;rw[FK,show((k+1:Nat):Int)-1=(k:Int) by omega,aL (show(k:Int)>=0 by omega),ae,an a,ab,aV a,LG];unfold tv;rw[aI a,show((r.2.2.2.2.2.1[k]).2.1.toList==ak.toList)=di (r.2.2.2.2.2.1[k]).2.1 from rfl];cases g:di (r.2.2.2.2.2.1[k]).2.1 with
  |true =>
   rw[ag rfl,aN,aa,aG (by omega) (by omega)];exact auu h k n (by omega) (by omega)
  |false =>
   rw[af (by decide),ek,ae];refine B2 (n7 (fun x=>Option.bind x _) e) ?_;rw[ai];cases (fE c r (r.2.2.2.2.2.1[k]).1 (r.2.2.2.2.2.1[k]).2.1 true).2 with
   |false=>rfl|true=>rw[LG];rfl
def axx {c:Int×Int}{r:aw}(h:aY c r):EJ F0 c r=some ((aus c r).1,(aus c r).2,()):=by have a:=h.f.l.t;rw[aib,aG (by omega) (by omega)];exact auu h r.2.2.2.2.2.1.length F0.n (bF _) (by rw[bz];omega)
def EU (r:aw)(d:pQ):aw:=(r.1,r.2.1,r.2.2.1,r.2.2.2.1,r.2.2.2.2.1,r.2.2.2.2.2.1,d,r.2.2.2.2.2.2.2)
def Yl (r:aw)(keep:Int):aw:=EU r (ha r.2.2.2.2.2.2.1 keep)
def akt (c:Int×Int)(r:aw)(keep:Int):aw:=axf c (Yl r keep)
def aY.Yl {c:Int×Int}{r:aw}(h:aY c r)(keep:Int):aY c (Yl r keep):=by
 have b:=af3 h.f.d keep;have d:=db.1 h.f.d;have e:ha r.2.2.2.2.2.2.1 keep=(r.2.2.2.2.2.2.1.1.take (HU r.2.2.2.2.2.2.1 keep).toNat,HU r.2.2.2.2.2.2.1 keep):=ag h.f.d;refine⟨⟨h.f.cf,h.f.i,h.f.v,h.f.a,h.f.s,h.f.p,h.f.t,?_,h.f.n,h.f.h⟩,?_⟩
 .show fA (ha r.2.2.2.2.2.2.1 keep)=true;rw[e];refine db.2 ⟨?_,?_,?_⟩
  .dsimp only;rw[bB];omega
  .dsimp only;omega
  .dsimp only;rw[bB];omega
 .show ∀x∈(ha r.2.2.2.2.2.2.1 keep).1,_;rw[e];exact fun x a=>h.b x (ZL a)
def adh {c:Int×Int}(a:bw c=true):bh c j8=true:=by unfold bh eT ZI j8;simp only[a,gE];rfl
def aFy {c:Int×Int}{b:List Int}(a:bw c=true):bh c (n2 c b).1=true:=by
 unfold n2;split
 .rename_i h;exact h.2.2
 .exact adh a
def az0 {c:Int×Int}{b:List Int}(e:bw c=true):∀(f:Nat) (s:bd) (a:Nat),bh c s=true->bh c (FX c b f s a).1=true
 |0,_,_,h=>h|f+1,s,a,h=>by
  cases d:HT c b a with
  |none=>rw[iv d];exact h
  |some z =>
   obtain⟨j,k⟩:=z;rw[C1 d];refine az0 e f j k ?_;cases g:rr b a with
   |none=>rw[C0 g]at d;cases d
   |some y =>
    obtain⟨v,l⟩:=y;rw[CZ g]at d;split at d
    .cases d
    .split at d
     .cases d
     .split at d
      .have i:=n7 Prod.fst (eR d);dsimp only at i;rw[<-i];exact aFy e
      .cases d
def az1 {c:Int×Int}(a:bw c=true)(b:List Int):bh c (dU c b).1=true:=az0 a _ _ _ (adh a)
def aY.aLg {c:Int×Int}{r:aw}(h:aY c r):aY c (axf c r):=by
 have b:=az1 h.f.cf r.2.2.2.2.2.2.1.1;have d:=Ye c h.bt.d;have e:=db.1 h.f.d;obtain⟨f,g,i,j⟩:=cL b;refine⟨⟨h.f.cf,h.f.i,?_,rfl,b,rfl,rfl,?_,aR _,fun x a=>by cases a⟩,fun x a=>h.b x (ZL a)⟩
 .show gE 1 60 (aqK (dU c r.2.2.2.2.2.2.1.1).1)=true;simp only[gE,aF,bW];unfold aqK GP sY
  repeat' split
  all_goals omega
 .show fA (r.2.2.2.2.2.2.1.1.take (dU c r.2.2.2.2.2.2.1.1).2,((dU c r.2.2.2.2.2.2.1.1).2:Int))=true;refine db.2 ⟨?_,?_,?_⟩
  .dsimp only;rw[bB];omega
  .dsimp only;omega
  .dsimp only;rw[bB];omega
def aY.akt {c:Int×Int}{r:aw}(h:aY c r)(keep:Int):aY c (akt c r keep):=(h.Yl keep).aLg
abbrev dm:=Int×Int×Int×b4
def axy (imp:Bool)(c:Int×Int)(r:aw)(m:b4):aw×Int:=if (GQ imp c r m).2=true/\m.1=4 then ((GQ imp c r m).1,0) else (r,3)
def adi (imp:Bool)(c:Int×Int)(r:aw)(d:dm):aw×Int :=
 if d.1=1 then Yk c r else if d.1=6 then aus c r else if d.1=7 then (if (BZ c r).2=true then ((BZ c r).1,0) else (r,3)) else if d.1=8 then (akt c r d.2.2.1,0) else axy imp c r d.2.2.2
def aY.adi {c:Int×Int}{r:aw}(h:aY c r)(imp:Bool)(d:dm):aY c (adi imp c r d).1:=by
 unfold Tryz.adi;split
 .exact h.Yk
 .split
  .exact azZ h _
  .split
   .split
    .exact h.aLf
    .exact h
   .split
    .exact h.akt _
    .unfold axy;split
     .exact h.heard _ _
     .exact h
def aI8 {imp:Bool}{c:Int×Int}{r:aw}{d:dm}:(adi imp c r d).1.1=r.1:=by
 unfold adi;split
 .exact aI7
 .split
  .exact aut _
  .split
   .split
    .exact aHm
    .rfl
   .split
    .rfl
    .unfold axy;split
     .exact axw
     .rfl
def az2 {c:Int×Int}{r:aw}(h:aY c r){d:dm}(j:fU d.2.2.2):Jf F0 c r d=some ((adi true c r d).1,(adi true c r d).2,()):=by
 have k:Rf F0 c (r.1,r.2.1,r.2.2.1,r.2.2.2.1,r.2.2.2.2.1,r.2.2.2.2.2.1,ha r.2.2.2.2.2.2.1 d.2.2.1,r.2.2.2.2.2.2.2)=some (akt c r d.2.2.1,()):=aFm (h.Yl d.2.2.1).bt (h.Yl d.2.2.1).ok;rw[amt,dW h.bt,ai,azY h,ai,axx h,ai,aFs h,ai,azC h.bt.d.1,ai,auq h j,ai];dsimp only;rw[k,ai];unfold adi;by_cases a:d.1=1
 .rw[bf.2 a,ae,ag a]
 .rw[bU.2 a,aa,af a];by_cases b:d.1=6
  .rw[bf.2 b,ae,ag b]
  .rw[bU.2 b,aa,af b];by_cases e:d.1=7
   .rw[bf.2 e,ae,ag e];cases (BZ c r).2<;>rfl
   .rw[bU.2 e,aa,af e];by_cases f:d.1=8
    .rw[bf.2 f,ae,ag f]
    .rw[bU.2 f,aa,af f];unfold axy;cases (GQ true c r d.2.2.2).2 with
     |false=>rw[af (fun i=>by cases i.1)];rfl
     |true =>
      by_cases g:d.2.2.2.1=4
      .rw[ag ⟨rfl,g⟩,bf.2 g];rfl
      .rw[af (fun i=>g i.2),bU.2 g];rfl
def EV:ah:=((0,0),[],[],[],[])
def auv (c:Int×Int)(x:gr):Prop:=dj x.2/\(gv c x.2).2=true/\gE 0 (aj (c.1-1)) x.1=true
def az3 (c:Int×Int)(x:cI):Prop:=gE 0 (aj (c.1-1)) x.2.2=true/\bg x.2.1.data.toList=true/\aC x.2.1.data.toList=x.1
structure aH (w:ah):Prop where
 c:bw w.1=true
 l:kf w.1.1 w.2.1=true
 lf:(w.2.1.length:Int)<=wC w.1
 n:(w.2.2.1.length:Int)=w.1.1
 g:∀r∈w.2.2.1,aY w.1 r
 id:∀(k:Nat) (h:k<w.2.2.1.length),(w.2.2.1[k]).1=(k:Int)
 nl:w.2.2.2.1.length<=60
 nb:∀x∈w.2.2.2.1,auv w.1 x
 sl:w.2.2.2.2.length<=300
 sb:∀x∈w.2.2.2.2,az3 w.1 x
def aH.le7 {w:ah}(h:aH w):4<=w.2.2.1.length/\w.2.2.1.length<=7:=by have:=b5 h.c;have:=h.n;omega
def aH.liars {w:ah}(h:aH w):w.2.1.length<=7:=by have a:=b5 h.c;have:=aiF h.l;omega
def aCk {c:Int×Int}{x:cI}(h:az3 c x):x.2.1.size<=1048576:=bY (oZ h.2.1) (by omega)
def aH.w {w:ah}(h:aH w):Pg w :=
 ⟨⟨by have:=h.liars;omega,by have:=h.le7;omega,fun x a=>(h.g x a).l,by have:=h.nl;omega,fun x a=>(h.nb x a).1,by have:=h.sl;omega,fun x a=>aCk (h.sb x a)⟩,fun r b=>(h.g r b).bt.d⟩
def JP {U:Type}{l:List U}{k:Nat}(h:k<l.length)(d:U):l.getD k d=l[k]:=aI h d
def aH.ok {w:ah}(h:aH w):eC w=true:=by
 unfold eC aqk Jo sW;simp only[aF,ai6,axR,SZ,ea,eS];refine⟨h.c,h.l,by have:=h.lf;omega,h.n,by have:=h.nl;omega,by have:=h.sl;omega,fun k a=>?_,fun k a=>?_,fun k a=>?_⟩
 .unfold aqj;rw[JP a,aF,bf];exact⟨(h.g _ (bP a)).ok,h.id k a⟩
 .unfold acW;rw[JP a,aF];exact(h.nb _ (bP a)).2
 .unfold acX;rw[JP a,aF,aF,bf];exact h.sb _ (bP a)
def aH.of {w:ah}(h:eC w=true)(e:∀x∈w.2.2.2.1,dj x.2)(f:∀r∈w.2.2.1,∀x∈r.2.2.2.2.2.2.1.1,0<=x/\x<=255):aH w:=by
 unfold eC aqk Jo sW at h;simp only[aF,ai6,axR,SZ,ea,eS]at h;obtain⟨g,i,o,j,p,q,l,m,n⟩:=h;have c:∀k (a:k<w.2.2.1.length),mU w.1 w.2.2.1[k]=true/\(w.2.2.1[k]).1=(k:Int):=fun k a=>by have:=l k a;unfold aqj at this;rw[JP a,aF,bf]at this;exact this
 refine⟨g,i,by omega,j,fun r d=>?_,fun k a=>(c k a).2,by omega,fun x b=>?_,by omega,fun x b=>?_⟩
 .obtain⟨k,a,rfl⟩:=ai4 d;exact⟨C5.1 (c k a).1,f _ d⟩
 .obtain⟨k,a,rfl⟩:=ai4 b;have:=m k a;unfold acW at this;rw[JP a,aF]at this;exact⟨e _ b,this⟩
 .obtain⟨k,a,rfl⟩:=ai4 b;have:=n k a;unfold acX at this;rw[JP a,aF,aF,bf]at this;exact this
def b3 (w:ah)(a:Int):aw:=w.2.2.1.getD a.toNat UQ
def fT (w:ah)(a:Int)(r:aw):ah:=(w.1,w.2.1,w.2.2.1.set a.toNat r,w.2.2.2)
def aCl {w:ah}{a:Int}(b:0<=a)(c:a<w.2.2.1.length):b3 w a∈w.2.2.1:=by unfold b3;rw[aI (show a.toNat<w.2.2.1.length by omega)];exact bP _
def aH.rep {w:ah}(h:aH w){a:Int}(b:0<=a)(c:a<w.2.2.1.length):aY w.1 (b3 w a)/\(b3 w a).1=a:=by refine⟨h.g _ (aCl b c),?_⟩;unfold b3;rw[aI (show a.toNat<w.2.2.1.length by omega),h.id _ (show a.toNat<w.2.2.1.length by omega)];omega
def aH.fT {w:ah}(h:aH w){a:Int}(i:0<=a){r:aw}(d:aY w.1 r)(hi:r.1=a):aH (fT w a r):=by
 refine⟨h.c,h.l,h.lf,by show((w.2.2.1.set a.toNat r).length:Int)=_;rw[tw];exact h.n,fun x b=>?_,fun k f=>?_,h.nl,h.nb,h.sl,h.sb⟩
 .rcases aAu b with b|rfl
  .exact h.g x b
  .exact d
 .have c:k<(w.2.2.1.set a.toNat r).length:=f;have g:((w.2.2.1.set a.toNat r)[k]'c).1=(k:Int):=by
   rw[List.getElem_set];split
   .rename_i e;rw[hi];omega
   .exact h.id k (by rw[tw]at c;exact c)
  exact g
def aD5 {c:Int×Int}{q:bZ}(d:bg q.2.1.data.toList=true)(e:q.2.1.data.toList≠[]->aC q.2.1.data.toList=q.1){id:Int}(hi:gE 0 (aj (c.1-1)) id=true):∀x∈UT id q,az3 c x:=by
 intro x a;unfold UT at a;cases b:di q.2.1 with
 |true=>rw[b,ag rfl]at a;cases a
 |false =>
  rw[b,af (by decide)]at a;split at a
  .rw[fM.1 a];refine⟨hi,d,e fun f=>?_⟩;rw[(ru _).2 f]at b;cases b
  .cases a
def aHn {c:Int×Int}{m:b4}(e:c8 c m=true){id:Int}(hi:gE 0 (aj (c.1-1)) id=true):∀x∈cG id m,az3 c x:=by
 have a:=agf e;have b:∀q:bZ,eT c q=true->∀x∈UT id q,az3 c x:=fun q f=>by obtain⟨_,g,h,_⟩:=j4 f;exact aD5 g (fun _=>h) hi
 rcases a.k with k|k|k|k
 .have d:=a.b k;simp only[fB,aF]at d;unfold cG;rw[af (by omega),af (by omega),ag k];exact b _ d.1
 .obtain⟨_,_,_,_,_,i,j⟩:=afW (a.p k).1;unfold cG;rw[af (by omega),ag k];exact aD5 i j hi
 .unfold cG;rw[af (by omega),af (by omega),af (by omega)];exact b _ (a.v k).2.1
 .unfold cG;rw[ag k];exact fun x l=>by cases l
def aCm {l:List cI}{y x:cI}(h:x∈C7 l y):x∈l\/x=y:=by
 unfold C7 at h;split at h
 .rcases gF.1 h with h|h
  .exact .inl h
  .exact .inr (fM.1 h)
 .exact .inl h
def aq6:∀{ys l:List cI} {x:cI},x∈ys.foldl C7 l->x∈l\/x∈ys
 |[],_,_,h=>.inl h|y::ys,l,x,h=>by
  rcases aq6 (ys:=ys) h with h|h
  .rcases aCm h with h|rfl
   .exact .inl h
   .exact .inr pT
  .exact .inr (jH _ h)
def Ym {id:Int}:∀{ps:List jw} {l:List cI} {x:cI},x∈Y5 id ps l->x∈l\/∃p∈ps,x∈cG id p.2
 |[],_,_,h=>.inl h|p::ps,l,x,h=>by
  rcases Ym (ps:=ps) h with h|⟨q,a,h⟩
  .rcases aq6 h with h|h
   .exact .inl h
   .exact .inr ⟨p,pT,h⟩
  .exact .inr ⟨q,jH _ a,h⟩
def eQ {w:ah}{id:Int}(h:id∈aE w):0<=id/\id<w.2.2.1.length:=by have:=aiz w.2.1 w.2.2.1.length id h;exact this
def aH.gE {w:ah}(h:aH w){a:Int}(c:0<=a)(d:a<w.2.2.1.length):gE 0 (aj (w.1.1-1)) a=true:=by have b:=b5 h.c;have e:=h.n;rw[XW b.1 b.2.1];simp only[Tryz.gE,aF,bW];omega
def aH.aCn {w:ah}(h:aH w){a:Int}(b:Tryz.gE 0 (aj (w.1.1-1)) a=true):0<=a/\a<w.2.2.1.length:=by have c:=b5 h.c;have d:=h.n;rw[XW c.1 c.2.1]at b;simp only[Tryz.gE,aF,bW]at b;omega
def aH.oI {w:ah}(h:aH w)(id:Int){list:List jw}(d:∀p∈list,c8 w.1 p.2=true):aH (oI w id list):=by
 unfold Tryz.oI;by_cases b:id∈aE w
 .rw[ag b];have c:=eQ b;refine⟨h.c,h.l,h.lf,h.n,h.g,h.id,h.nl,h.nb,akr id h.sl,fun x a=>?_⟩;rcases Ym a with a|⟨p,e,a⟩
  .exact h.sb x a
  .exact aHn (d p e) (h.gE c.1 c.2) x a
 .rw[af b];exact h
def auw {c:Int×Int}{m:b4}(h:c8 c m=true){a:Int}(b:gE 0 (aj (c.1-1)) a=true):auv c (a,C3 m):=by have d:=aqG h;exact⟨⟨by dsimp only;omega,d.2.1⟩,by rw[aiG h],b⟩
def aq7 {c:Int×Int}:∀{ps:List jw} {l:List gr} {x:gr},x∈aq4 c ps l->x∈l\/auv c x
 |[],_,_,h=>.inl h|p::ps,l,x,h=>by
  rcases aq7 (ps:=ps) h with h|h
  .unfold abz at h;split at h
   .rename_i a;rcases gF.1 h with h|h
    .exact .inl h
    .rw[fM.1 h];exact .inr (auw a.2.1 a.2.2)
   .exact .inl h
  .exact .inr h
def aq8 {c:Int×Int}:∀{ps:List jw} {l:List gr},l.length<=60->(aq4 c ps l).length<=60
 |[],_,h=>h|p::ps,l,h=>aq8 (ps:=ps) (aiR h p)
def aH.send {w:ah}(h:aH w)(list:List jw):aH (Bv w list) :=
 ⟨h.c,h.l,h.lf,h.n,h.g,h.id,aq8 h.nl,fun x a=>(aq7 a).elim (h.nb x) (fun h=>h),h.sl,h.sb⟩
def aH.Yn {w:ah}(h:aH w){a:List gr}(b:a.length<=60)(c:∀x∈a,auv w.1 x):aH (w.1,w.2.1,w.2.2.1,a,w.2.2.2.2) :=
 ⟨h.c,h.l,h.lf,h.n,h.g,h.id,b,c,h.sl,h.sb⟩
def aY.axz {c:Int×Int}{r:aw}(h:aY c r):∀p∈r.2.2.2.2.2.2.2,c8 c p.2=true:=fun p a=>azI (h.f.h p a)
def aY.aJS {c:Int×Int}{r:aw}(h:aY c r):∀p∈r.2.2.2.2.2.2.2,fU p.2:=fun p a=>axl (h.axz p a)
def Good (w:ah):Prop:=Pg w/\(eC w=true->aH w)
def aH.aCo {w:ah}(h:aH w):Good w:=⟨h.w,fun _=>h⟩
def aH.aJT {w:ah}(h:aH w){a:List gr}(f:a.length<=61)(c:∀x∈a,auv w.1 x):Good (w.1,w.2.1,w.2.2.1,a,w.2.2.2.2) :=
 ⟨⟨⟨h.w.l.l,h.w.l.r,h.w.l.rl,by show a.length<=_;omega,fun x b=>(c x b).1,h.w.l.s,h.w.l.st⟩,h.w.b⟩,fun d=>aH.of d (fun x b=>(c x b).1) fun r e=>(h.g r e).b⟩
def Jv {w:ah}{a:Int}(c:0<=a)(e:a<w.2.2.1.length)(d:aw):aK w.2.2.1 a d=b3 w a:=by
 have b:a.toNat<w.2.2.1.length:=by omega
 unfold b3;rw[aI b];exact aI b d
def aD6 (l:List cI)(id:Int)(list:List jw):Bool:=list.all fun p=>(cG id p.2).all fun x=>kb l x.1 x.2.1 x.2.2
def bb (w:ah)(a:Int):List jw:=(b3 w a).2.2.2.2.2.2.2
def lI (w:ah)(a:Int):ah:=fT (oI w a (bb w a)) a (Ry (b3 w a))
def abA (w:ah)(a:Int):ah×Int :=
 if aD6 (oI w a (bb w a)).2.2.2.2 a (bb w a)=true then (if w.2.2.2.1.length+(bb w a).length<=60 then (Bv (lI w a) (bb w a),0) else (w,4)) else (w,4)
def aq9 (w:ah)(id:Int)(list:List jw):(oI w id list).1=w.1/\(oI w id list).2.2.1=w.2.2.1/\(oI w id list).2.2.2.1=w.2.2.2.1:=by unfold oI;split<;>exact⟨rfl,rfl,rfl⟩
def aH.lI {w:ah}(h:aH w){a:Int}(b:0<=a)(d:a<w.2.2.1.length):aH (lI w a):=by obtain⟨c,f⟩:=h.rep b d;have g:=h.oI a (list:=bb w a) c.axz;have e:=(aq9 w a (bb w a)).1;exact g.fT b (by rw[e];exact c.Ry) f
def axA {w:ah}(h:aH w){a:Int}(c:0<=a)(i:a<w.2.2.1.length):Et F0 w a=some ((abA w a).1,(abA w a).2,()):=by
 obtain⟨f,C⟩:=h.rep c i;have j:=f.aJS;have D:(bb w a).length<=30:=f.f.n;have l:=h.oI a (list:=bb w a) f.axz;have t:=axp f;have u:=aCi h.w h.sl a (list:=bb w a) (by omega) j;have o:=(aq9 w a (bb w a)).2.1;have d:=h.lI c i;rw[ahP,lQ c (by omega),ab,Jv c i,t,ai];refine B2 (n7 (fun x=>Option.bind x _) u) ?_;rw[ai];dsimp only;generalize v:Ry (b3 w a)=S;generalize q:oI w a (bb w a)=O at l o d;have y:∀n,fu F0 (.exit 0) (wv a w.1.1 w.1.2 w.2.1 w.2.2.1 w.2.2.2.1 w.2.2.2.2 0 0 S.1 S.2.1 S.2.2.1 S.2.2.2.1.1 S.2.2.2.1.2.1 S.2.2.2.1.2.2.1.1 S.2.2.2.1.2.2.1.2.1 S.2.2.2.1.2.2.2 S.2.2.2.2.2.2.1.2 O.1.1 O.1.2 (bb w a) [] [] [] [] S.2.2.2.1.2.2.1.2.2 S.2.2.2.2.1 S.2.2.2.2.2.1 S.2.2.2.2.2.2.1.1 S.2.2.2.2.2.2.2 O.2.1 O.2.2.1 O.2.2.2.1 O.2.2.2.2)=(fun _:Nat=>some (if w.2.2.2.1.length+(bb w a).length<=60 then (Bv (lI w a) (bb w a),(0:Int),()) else (w,4,()))) n:=fun n=>by
  have r:fT O a S=lI w a:=by unfold lI;rw[q,v]
  rw[<-r]at d;have z:QP F0 ((O.1.1,O.1.2),O.2.1,O.2.2.1.set a.toNat (S.1,S.2.1,S.2.2.1,(S.2.2.2.1.1,S.2.2.2.1.2.1,(S.2.2.2.1.2.2.1.1,S.2.2.2.1.2.2.1.2.1,S.2.2.2.1.2.2.1.2.2),S.2.2.2.1.2.2.2),S.2.2.2.2.1,S.2.2.2.2.2.1,(S.2.2.2.2.2.2.1.1,S.2.2.2.2.2.2.1.2),S.2.2.2.2.2.2.2),O.2.2.2.1,O.2.2.2.2) (bb w a)=some (Bv (fT O a S) (bb w a),()):=by have:=aFx d.w d.nl (list:=bb w a) (by omega) j;rw[d.ok,ag rfl]at this;exact this
  have E:=h.nl;rw[Zt,aG (by omega) (by omega),lQ c (by rw[o];omega),ab,z,ai];by_cases s:w.2.2.2.1.length+(bb w a).length<=60
  .rw[aQ (show ¬(w.2.2.2.1.length:Int)+(bb w a).length>60 by omega),aa];dsimp only;rw[ag s,r]
  .rw[aL (show(w.2.2.2.1.length:Int)+(bb w a).length>60 by omega),ae];dsimp only;rw[af s]
 have A:=ej (fun n k=>oy F0 (fu F0) n (k3 a ((bb w a).length:Int) k w.1.1 w.1.2 w.2.1 w.2.2.1 w.2.2.2.1 w.2.2.2.2 0 0 S.1 S.2.1 S.2.2.1 S.2.2.2.1.1 S.2.2.2.1.2.1 S.2.2.2.1.2.2.1.1 S.2.2.2.1.2.2.1.2.1 S.2.2.2.1.2.2.2 S.2.2.2.2.2.2.1.2 O.1.1 O.1.2 (bb w a) [] [] [] [] S.2.2.2.1.2.2.1.2.2 S.2.2.2.2.1 S.2.2.2.2.2.1 S.2.2.2.2.2.2.1.1 S.2.2.2.2.2.2.2 O.2.1 O.2.2.1 O.2.2.2.1 O.2.2.2.2)) (bb w a).length
  (fun k=>(cG a ((bb w a).getD k awW).2).all fun x=>kb O.2.2.2.2 x.1 x.2.1 x.2.2) (some (if w.2.2.2.1.length+(bb w a).length<=60 then (Bv (lI w a) (bb w a),(0:Int),()) else (w,4,()))) (some (w,4,()))
  (fun n k e=>?_) (fun n=>?_) F0.n (by rw[bz];omega)
 .refine B2 A ?_;rw[LS (bb w a) (fun p=>(cG a p.2).all fun x=>kb O.2.2.2.2 x.1 x.2.1 x.2.2) awW];unfold abA aD6;rw[q];cases ((bb w a).all fun p=>(cG a p.2).all fun x=>kb O.2.2.2.2 x.1 x.2.1 x.2.2) with
  |false=>rfl
  |true =>
   rw[ag rfl,ag rfl];split<;>rfl
 .have F:=adf a ((bb w a)[k]).2;rw[FC,aM e,ae,an e,ab,aV e,akq (j _ (bP e)),ai,aI e];have B:=ej (fun m b=>vu F0 (pI F0 (fu F0) n) m (pH a ((bb w a).length:Int) (k:Int) ((cG a ((bb w a)[k]).2).length:Int) b w.1.1 w.1.2 w.2.1 w.2.2.1 w.2.2.2.1 w.2.2.2.2 0 0 S.1 S.2.1 S.2.2.1 S.2.2.2.1.1 S.2.2.2.1.2.1 S.2.2.2.1.2.2.1.1 S.2.2.2.1.2.2.1.2.1 S.2.2.2.1.2.2.2 S.2.2.2.2.2.2.1.2 O.1.1 O.1.2 (bb w a) (cG a ((bb w a)[k]).2) [] [] [] [] S.2.2.2.1.2.2.1.2.2 S.2.2.2.2.1 S.2.2.2.2.2.1 S.2.2.2.2.2.2.1.1 S.2.2.2.2.2.2.2 O.2.1 O.2.2.1 O.2.2.2.1 O.2.2.2.2)) (cG a ((bb w a)[k]).2).length
   (fun b=>(fun x:cI=>kb O.2.2.2.2 x.1 x.2.1 x.2.2) ((cG a ((bb w a)[k]).2).getD b L1)) (oy F0 (fu F0) n (k3 a ((bb w a).length:Int) ((k+1:Nat):Int) w.1.1 w.1.2 w.2.1 w.2.2.1 w.2.2.2.1 w.2.2.2.2 0 0 S.1 S.2.1 S.2.2.1 S.2.2.2.1.1 S.2.2.2.1.2.1 S.2.2.2.1.2.2.1.1 S.2.2.2.1.2.2.1.2.1 S.2.2.2.1.2.2.2 S.2.2.2.2.2.2.1.2 O.1.1 O.1.2 (bb w a) [] [] [] [] S.2.2.2.1.2.2.1.2.2 S.2.2.2.2.1 S.2.2.2.2.2.1 S.2.2.2.2.2.2.1.1 S.2.2.2.2.2.2.2 O.2.1 O.2.2.1 O.2.2.2.1 O.2.2.2.2)) (some (w,4,()))
   (fun m b g=>?_) (fun m=>?_) F0.n (by rw[bz];omega)
  .refine B2 B ?_;rw[LS (cG a ((bb w a)[k]).2) (fun x:cI=>kb O.2.2.2.2 x.1 x.2.1 x.2.2) L1]
  .have G:=l.sl;rw[FB,aM g,ae,an g,ab,aV g,C6 (by omega),ai,acw,acx,al (by omega),aI g];rcases Bool.eq_false_or_eq_true (kb O.2.2.2.2 (cG a ((bb w a)[k]).2)[b].1 (cG a ((bb w a)[k]).2)[b].2.1 (cG a ((bb w a)[k]).2)[b].2.2) with hs|hs
   .simp only[hs,aN,aa,gG]
   .simp only[hs,ek,ae];rfl
  .rw[FB,aB,aa,Zs,al (by omega)]
 .rw[FC,aB,aa];exact y n
def adj (a:List gr)(k:Nat):List gr:=a.take k++a.drop (k+1)
def cU (w:ah)(a:Int):gr:=w.2.2.2.1.getD a.toNat aBA
def Yn (w:ah)(a:List gr):ah:=(w.1,w.2.1,w.2.2.1,a,w.2.2.2.2)
def OJ (w:ah)(a:Int):ah:=Yn w (adj w.2.2.2.1 a.toNat)
def aiU (imp:Bool)(w:ah)(x:gr):aw:=(GQ imp w.1 (b3 w x.1) (gv w.1 x.2).1).1
def agk (imp:Bool)(w:ah)(a:Int):ah:=if (cU w a).1∈aE w then fT (OJ w a) (cU w a).1 (aiU imp w (cU w a)) else OJ w a
def ara (w:ah)(d:dm):ah×Int :=
 if d.1=3 then (agk true w d.2.1,0) else if d.1=4 then (OJ w d.2.1,0) else if d.1=5 then (Yn w (w.2.2.2.1++[cU w d.2.1]),0)
 else if GR w.1 w.2.1 w.2.2.2.2 d.2.2.2=true then (Yn w (w.2.2.2.1++[(d.2.1,C3 d.2.2.2)]),0) else (w,5)
def adk {a:List gr}{k:Nat}{x:gr}(h:x∈adj a k):x∈a:=by
 rcases gF.1 h with h|h
 .exact ZL h
 .exact auR h
def aCp (a:List gr)(k:Nat):(adj a k).length<=a.length:=by unfold adj;rw[aJ,bB,bc];omega
def aH.OJ {w:ah}(h:aH w)(a:Int):aH (OJ w a):=h.Yn (bY (aCp _ _) h.nl) fun x b=>h.nb x (adk b)
def aH.agk {w:ah}(h:aH w)(imp:Bool)(a:Int):aH (agk imp w a):=by
 unfold Tryz.agk;split
 .rename_i c;have b:=eQ c;obtain⟨d,hid⟩:=h.rep b.1 b.2;exact(h.OJ a).fT b.1 (d.heard imp _) (by unfold aiU;rw[axw];exact hid)
 .exact h.OJ a
def aH.aI9 {w:ah}(h:aH w){a:Int}(b:0<=a)(c:a<w.2.2.2.1.length):auv w.1 (cU w a):=by refine h.nb _ ?_;unfold cU;rw[aI (show a.toNat<w.2.2.2.1.length by omega)];exact bP _
def arb {c:Int×Int}{b:List Int}(h:(gv c b).2=true):fU (gv c b).1/\c8 c (gv c b).1=true:=by
 have:c8 c (gv c b).1=true:=by
  unfold gv fin at h ⊢;split at h
  .rename_i a;rw[ag a];exact a.2.2
  .cases h
 exact⟨axl this,this⟩
def aku {w:ah}(h:aH w){d:dm}(i:fU d.2.2.2)(l:d.1=3\/d.1=4\/d.1=5->0<=d.2.1/\d.2.1<w.2.2.2.1.length):nW F0 w d=some ((ara w d).1,(ara w d).2,()):=by
 have r:=h.nl;have hlen:=F1 w;have s:=h.le7;rw[amj,lD h.w,ai];dsimp only;unfold ara;by_cases k:d.1=3\/d.1=4\/d.1=5
 .obtain⟨f,j⟩:=l k;have b:=h.aI9 f j;obtain⟨m,t⟩:=arb b.2.1;have n:aj (d.2.1+1)=d.2.1+1:=aG (by omega) (by omega);have o:(d.2.1+1).toNat=d.2.1.toNat+1:=by omega
  have ex:∀a:gr,aK w.2.2.2.1 d.2.1 a=cU w d.2.1:=fun a=>by
   unfold cU;have c:d.2.1.toNat<w.2.2.2.1.length:=by omega
   rw[aI c];show w.2.2.2.1.getD d.2.1.toNat a=_;exact aI c a
  obtain⟨t0,t1⟩:=h.aCn b.2.2;obtain⟨p,hid⟩:=h.rep t0 t1;have q:∀a:aw,JF F0 w.1 (aK w.2.2.1 (cU w d.2.1).1 a) (gv w.1 (cU w d.2.1).2).1=some ((GQ true w.1 (b3 w (cU w d.2.1).1) (gv w.1 (cU w d.2.1).2).1).1,(GQ true w.1 (b3 w (cU w d.2.1).1) (gv w.1 (cU w d.2.1).2).1).2,()):=fun a=>by
   have c:(cU w d.2.1).1.toNat<w.2.2.1.length:=by omega
   have:aK w.2.2.1 (cU w d.2.1).1 a=b3 w (cU w d.2.1).1:=by unfold b3;rw[aI c];exact aI c a
   rw[this];exact auq p m
  rw[lQ f j,ab,n,aqy f (by omega) (by omega),ab,ab,ab,ex,acV b.1,ai,b.2.1,ae,ng h.w.l,ai,eA (by dsimp only;omega),ai,lQ t0 t1,ab,q,ai,af0 b.1.1,ai,ar (by omega) (by omega) (by first|omega|(simp only[aJ,aW,bm];omega)|(rw[bc,bB];omega)),ab];dsimp only;rw[ab,o];rcases k with k|k|k
  .rw[bf.2 k,ae,ag k];unfold agk;by_cases e:(cU w d.2.1).1∈aE w
   .rw[aL e,ae,ag e];rfl
   .rw[aQ e,aa,af e];rfl
  .rw[bU.2 (show d.1≠3 by omega),aa,bf.2 k,ae,af (by omega),ag k];rfl
  .rw[bU.2 (show d.1≠3 by omega),aa,bU.2 (show d.1≠4 by omega),aa,bf.2 k,ae,af (by omega),af (by omega),ag k];rfl
 .have u:=h.liars;have v:=h.sl;rw[bU.2 (show d.1≠3 by omega),aa,bU.2 (show d.1≠4 by omega),aa,bU.2 (show d.1≠5 by omega),aa,af (by omega),af (by omega),af (by omega),azV (by omega) (by omega) i,ai,abu i,ai,ar (by omega) (by omega) (by first|omega|(simp only[aJ,aW,bm];omega)|(rw[bc,bB];omega)),ab];cases g:GR w.1 w.2.1 w.2.2.2.2 d.2.2.2 with
  |false=>rfl
  |true =>
   have dd:c8 w.1 d.2.2.2=true:=by unfold GR at g;rw[aF]at g;exact g.1
   dsimp only;rw[show af1 w.1 d.2.2.2=C3 d.2.2.2 from ag dd];rfl
def HV (d:dm):Bool:=(d.1==3) || ((d.1==4) || (d.1==5))
def fJ {d:dm}:HV d=true↔d.1=3\/d.1=4\/d.1=5:=by simp[HV]
def Pj (w:ah)(d:dm):Bool :=
 if HV d=true then gE 0 (aj ((w.2.2.2.1.length:Int)-1)) d.2.1 else if d.1=10 then gE 0 (aj (w.1.1-1)) d.2.1 else decide (d.2.1∈aE w)
def JQ {w:ah}{d:dm}(h:HV d=true):Pj w d=gE 0 (aj ((w.2.2.2.1.length:Int)-1)) d.2.1:=ag h
def aiV {w:ah}{d:dm}(h:¬HV d=true)(a:d.1=10):Pj w d=gE 0 (aj (w.1.1-1)) d.2.1:=by unfold Pj;rw[af h,ag a]
def C8 {w:ah}{d:dm}(h:¬HV d=true)(a:¬d.1=10):Pj w d=decide (d.2.1∈aE w):=by unfold Pj;rw[af h,af a]
def az4 {w:ah}(h:aH w)(d:dm):IW F0 w d=some (Pj w d,()):=by
 have hlen:=F1 w;have i:=h.le7;rw[alZ,bR,ai,bR,ai,ng h.w.l,ai,eA (by dsimp only;omega),ai];by_cases a:d.1=3
 .rw[bf.2 a,ae,JQ (fJ.2 (.inl a))]
 .rw[bU.2 a,aa];by_cases b:d.1=4
  .rw[bf.2 b,ae,JQ (fJ.2 (.inr (.inl b)))]
  .rw[bU.2 b,aa];by_cases c:d.1=5
   .rw[bf.2 c,ae,JQ (fJ.2 (.inr (.inr c)))]
   .have g:¬HV d=true:=fun f=>(fJ.1 f).elim a (fun f=>f.elim b c)
    rw[bU.2 c,aa];by_cases e:d.1=10
    .rw[bf.2 e,ae,aiV g e]
    .rw[bU.2 e,aa,C8 g e]
def amA (imp:Bool)(w:ah)(d:dm):ah×Int:=(fT w d.2.1 (adi imp w.1 (b3 w d.2.1) d).1,(adi imp w.1 (b3 w d.2.1) d).2)
def arc (w:ah)(d:dm):ah×Int:=if d.1=2 then abA w d.2.1 else if HV d=true\/d.1=10 then ara w d else amA true w d
def aCq (w:ah)(x:ah×Int):ah×Int:=if x.2=0 then (if eC x.1=true then (x.1,0) else (w,4)) else (w,x.2)
def doI (w:ah)(d:dm):ah×Int:=if gE 1 10 d.1=true then (if Pj w d=true then aCq w (arc w d) else (w,2)) else (EV,1)
def RC {w:ah}(h:aH w){a:Int}(b:gE 0 (aj ((w.2.2.2.1.length:Int)-1)) a=true):0<=a/\a<w.2.2.2.1.length:=by have c:=h.nl;rw[aG (by omega) (by omega)]at b;simp only[gE,aF,bW]at b;omega
def aH.amA {w:ah}(h:aH w)(imp:Bool){d:dm}(a:0<=d.2.1)(b:d.2.1<w.2.2.1.length):aH (amA imp w d).1:=by obtain⟨c,e⟩:=h.rep a b;exact h.fT a (c.adi imp d) (by rw[aI8];exact e)
def aD7 {w:ah}(h:aH w){a:Int}(b:0<=a)(c:a<w.2.2.1.length):aH (abA w a).1:=by
 unfold abA;split
 .split
  .exact(h.lI b c).send _
  .exact h
 .exact h
def Y6 {w:ah}(h:aH w){d:dm}(f:HV d=true->0<=d.2.1/\d.2.1<w.2.2.2.1.length)(g:¬HV d=true->gE 0 (aj (w.1.1-1)) d.2.1=true):Good (ara w d).1:=by
 have m:=h.nl;unfold ara;split
 .exact(h.agk true _).aCo
 .split
  .exact(h.OJ _).aCo
  .split
   .rename_i b;obtain⟨i,j⟩:=f (fJ.2 (.inr (.inr b)));refine h.aJT (by rw[aJ,cR];omega) fun x a=>?_
    rcases gF.1 a with a|a
    .exact h.nb x a
    .rw[fM.1 a];exact h.aI9 i j
   .split
    .rename_i k l b c;have dd:c8 w.1 d.2.2.2=true:=by unfold GR at c;rw[aF]at c;exact c.1
     refine h.aJT (by rw[aJ,cR];omega) fun x a=>?_
     rcases gF.1 a with a|a
     .exact h.nb x a
     .rw[fM.1 a];exact auw dd (g fun e=>(fJ.1 e).elim k (fun e=>e.elim l b))
    .exact h.aCo
def aHo {w:ah}(c:Pg w){x:ah×Int}(d:Good x.1) :
  br (x.2==0) ((bT F0 x.1).bind fun e=>br (!e.1) (br ((4:Int) != 0) ((aS F0 w).bind fun b=>some (b.1,(4:Int),())) (some (x.1,0,()))) (br (x.2 != 0) ((aS F0 w).bind fun b=>some (b.1,x.2,())) (some (x.1,0,())))) (br (x.2 != 0) ((aS F0 w).bind fun b=>some (b.1,x.2,())) (some (x.1,0,())))=some ((aCq w x).1,(aCq w x).2,()):=by
 rw[eP d.1.l,ai,lD c,ai,ai];unfold aCq;by_cases a:x.2=0
 .rw[bf.2 a,ae,ag a,show(x.2 != 0)=false by simp[a]];cases eC x.1<;>rfl
 .rw[bU.2 a,aa,af a,show(x.2 != 0)=true by simp[a]];rfl
def aKm {w:ah}(h:aH w){d:dm}(j:fU d.2.2.2):amK F0 w d=some ((doI w d).1,(doI w d).2,()):=by
 have t:=h.le7;rw[aBj,eP h.w.l,ai,h.ok,aN,aa,bR,ai,az4 h,ai,lD h.w];unfold doI;cases u:gE 1 10 d.1 with
 |false=>rfl
 |true =>
  rw[ag rfl,aN,aa];cases c:Pj w d with
  |false=>rfl
  |true =>
   rw[ag rfl,aN,aa];simp only[ai];have tail:∀x:ah×Int,Good x.1->_:=fun x p=>aHo h.w p
   rw[lD h.w]at tail;simp only[ai]at tail;unfold arc;by_cases i:d.1=2
   .have a:d.2.1∈aE w:=by rw[C8 (fun a=>by have:=fJ.1 a;omega) (by omega)]at c;exact lE c
    obtain⟨e,f⟩:=eQ a;rw[bf.2 i,ae,ag i,axA h e f,ai];exact tail _ (aD7 h e f).aCo
   .rw[bU.2 i,aa,af i];by_cases b:HV d=true
    .have k:gE 0 (aj ((w.2.2.2.1.length:Int)-1)) d.2.1=true:=by rw[JQ b]at c;exact c
     have m:=RC h k;have l:=aku h j (fun _=>m);have q:Good (ara w d).1:=Y6 h (fun _=>m) (fun a=>absurd b a);rw[ag (.inl b),l,ai];have fin:=tail _ q;by_cases n:d.1=3
     .rw[bf.2 n,ae];exact fin
     .rw[bU.2 n,aa];by_cases o:d.1=4
      .rw[bf.2 o,ae];exact fin
      .have r:d.1=5:=by have:=fJ.1 b;omega
       rw[bU.2 o,aa,bf.2 r,ae];exact fin
    .have v:¬(d.1=3\/d.1=4\/d.1=5):=fun a=>b (fJ.2 a)
     rw[bU.2 (show d.1≠3 by omega),aa,bU.2 (show d.1≠4 by omega),aa,bU.2 (show d.1≠5 by omega),aa];by_cases g:d.1=10
     .have k:gE 0 (aj (w.1.1-1)) d.2.1=true:=by rw[aiV b g]at c;exact c
      have l:=aku h j (fun a=>absurd (fJ.2 a) b);rw[bf.2 g,ae,ag (.inr g),l,ai];exact tail _ (Y6 h (fun a=>absurd a b) (fun _=>k))
     .have a:d.2.1∈aE w:=by rw[C8 b g]at c;exact lE c
      obtain⟨e,f⟩:=eQ a;obtain⟨s,y⟩:=h.rep e f;rw[bU.2 g,aa,af (fun a=>a.elim b g),lQ e (by omega),ab,Jv e f,az2 s j,ai,ab];exact tail (amA true w d) (h.amA true e f).aCo
def abB (w:ah)(d:dm):ah:=if (doI w d).2=0 then (doI w d).1 else w
def aiW (w:ah)(list:List dm):ah:=list.foldl abB w
def axB {w:ah}(h:aH w)(d:dm):aH (abB w d):=by
 unfold abB;split
 .rename_i a;unfold doI at a ⊢;cases l:gE 1 10 d.1 with
  |false=>rw[l,af (by decide)]at a;exact absurd (show(1:Int)=0 from a) (by decide)
  |true =>
   rw[l,ag rfl]at a;rw[ag rfl];cases c:Pj w d with
   |false=>rw[c,af (by decide)]at a;exact absurd (show(2:Int)=0 from a) (by decide)
   |true =>
    rw[c,ag rfl]at a;rw[ag rfl];have o:Good (arc w d).1:=by
     unfold arc;by_cases m:d.1=2
     .have b:d.2.1∈aE w:=by rw[C8 (fun b=>by have:=fJ.1 b;omega) (by omega)]at c;exact lE c
      obtain⟨g,i⟩:=eQ b;rw[ag m];exact(aD7 h g i).aCo
     .rw[af m];by_cases e:HV d=true
      .have j:gE 0 (aj ((w.2.2.2.1.length:Int)-1)) d.2.1=true:=by rw[JQ e]at c;exact c
       rw[ag (.inl e)];exact Y6 h (fun _=>RC h j) (fun b=>absurd e b)
      .by_cases f:d.1=10
       .have j:gE 0 (aj (w.1.1-1)) d.2.1=true:=by rw[aiV e f]at c;exact c
        rw[ag (.inr f)];exact Y6 h (fun b=>absurd b e) (fun _=>j)
       .have b:d.2.1∈aE w:=by rw[C8 e f]at c;exact lE c
        obtain⟨g,i⟩:=eQ b;rw[af (fun b=>b.elim e f)];exact(h.amA true g i).aCo
    unfold aCq at a ⊢;by_cases k:(arc w d).2=0
    .rw[ag k]at a ⊢;cases n:eC (arc w d).1 with
     |false=>rw[n,af (by decide)]at a;exact absurd (show(4:Int)=0 from a) (by decide)
     |true=>rw[ag rfl];exact o.2 n
    .rw[af k]at a;exact absurd a k
 .exact h
def az5:∀{list:List dm} {w:ah},aH w->aH (aiW w list)
 |[],_,h=>h|d::list,w,h=>az5 (list:=list) (axB h d)
def aFz {w:ah}(h:aH w){list:List dm}(t:list.length<=500)(p:∀d∈list,fU d.2.2.2):∃a:List Int,a.length=list.length/\Sm F0 w list=some (aiW w list,a,()):=by
 rw[asK,lD h.w,ai,eP h.w.l,ai,h.ok,aN,aa,aQ (show ¬(list.length:Int)>500 by omega),aa];have key:∀(b k:Nat) (z:ah) (f:List Int) (n:Nat),k+b=list.length->aH z->f.length=k->b<n->∃a:List Int,a.length=list.length /\
   Bd F0 (LI F0) n (rk list (list.length:Int) (k:Int) 0 0 z.1.1 z.1.2 z.2.1 z.2.2.1 z.2.2.2.1 z.2.2.2.2 f [] [] [] [])=some (aiW z (list.drop k),a,()):=by
  intro b
  induction b with
  |zero =>
   intro k z f n q g j r;obtain⟨n,rfl⟩:∃m,n=m+1:=⟨n-1,by omega⟩;obtain rfl:k=list.length:=by omega
   rw[Of,aB,aa,aie,Vl];exact⟨f,j,rfl⟩
  |succ b l =>
   intro k z f n q g j r;obtain⟨n,rfl⟩:∃m,n=m+1:=⟨n-1,by omega⟩;have c:k<list.length:=by omega
   have s:=aKm g (p _ (bP c));rw[Of,aM c,ae,an c,ab,aV c,show(((z.1.1,z.1.2),z.2.1,z.2.2.1,z.2.2.2.1,z.2.2.2.2):ah)=z from rfl,s,ai,ar (by omega) (by omega) (by first|omega|(simp only[aJ,aW,bm];omega)|(rw[bc,bB];omega)),ab,ab,al (by omega),Vi c];have o:=axB g list[k];show ∃a:List Int,_/\_=some (aiW (abB z list[k]) (list.drop (k+1)),a,());by_cases i:(doI z list[k]).2=0
   .have e:abB z list[k]=(doI z list[k]).1:=ag i;rw[e]at o ⊢;rw[bf.2 i,ae];exact l (k+1) _ _ n (by omega) o (by rw[aJ,cR];omega) (by omega)
   .have e:abB z list[k]=z:=af i;rw[e];rw[bU.2 i,aa];exact l (k+1) _ _ n (by omega) g (by rw[aJ,cR];omega) (by omega)
 exact key list.length 0 w [] F0.n (by omega) h rfl (by rw[bz];omega)
def agl (w:ah)(x:ah×Int):ah×Int×ah:=if x.2=0 then (x.1,0,EV) else (EV,x.2,w)
def w9 (w x:ah):agl w (x,0)=(x,0,EV):=ag rfl
def F3 (w y:ah){k:Int}(h:k≠0):agl w (y,k)=(EV,k,w):=af h
def aKn (w:ah)(a:Int):ah×Int:=(fT w a (Yk w.1 (b3 w a)).1,(Yk w.1 (b3 w a)).2)
def aCr {w:ah}(h:aH w){a:Int}(c:0<=a)(e:a<w.2.2.1.length):Nc F0 w a=some (agl w (aKn w a)):=by
 obtain⟨b,l⟩:=h.rep c e;rw[aoT,lQ c (by omega),ab,Jv c e,aD3 b,ai,ab,dV b.bt,ai];unfold aKn Yk;cases g:(ask w.1 (b3 w a)).2 with
 |false=>rfl
 |true =>
  obtain⟨_,f,_,_⟩:=aHf g;obtain⟨i,j⟩:=JO f;have k:z6 F0 w.1 ((b3 w a).1,(b3 w a).2.1,(b3 w a).2.1,(b3 w a).2.2.2) (1,0,(ask w.1 (b3 w a)).1,(0,ak,[]),(0,ak,[]),0,0,0,0,0)=some ((aiT w.1 (b3 w a)).1,(aiT w.1 (b3 w a)).2,()):=azN b.F2 (ac9 i j);dsimp only;rw[k,ai,aby (aCj b) f,ai,aN,aa,ag rfl];cases (aiT w.1 (b3 w a)).2 with
  |false=>rw[af (fun d=>by cases d.1)];rfl
  |true =>
   cases (e8 w.1 (aiT w.1 (b3 w a)).1 (ask w.1 (b3 w a)).1).2 with
   |false=>rw[af (fun d=>by cases d.2)];rfl
   |true =>
    rw[ag ⟨rfl,rfl⟩,aN,aa,aa,ab];rfl
def aHp (w:ah)(a:Int):ah×Int:=(fT w a (aus w.1 (b3 w a)).1,(aus w.1 (b3 w a)).2)
def az6 {w:ah}(h:aH w){a:Int}(b:0<=a)(e:a<w.2.2.1.length):IH F0 w a=some (agl w (aHp w a)):=by
 obtain⟨c,o⟩:=h.rep b e;have f:=c.f.l.t;rw[alG,lQ b (by omega),ab,Jv b e,aG (by omega) (by omega)];unfold aHp aus;generalize p:b3 w a=r at c f;have key:∀(k n:Nat),k<=r.2.2.2.2.2.1.length->k<n ->
   Ac F0 (sd F0) n (sa a ((k:Int)-1) w.1.1 w.1.2 w.1.1 w.1.2 0 0 r.1 r.2.1 r.2.2.1 r.2.2.2.1.1 r.2.2.2.1.2.1 r.2.2.2.1.2.2.1.1 r.2.2.2.1.2.2.1.2.1 r.2.2.2.1.2.2.1.2.2 r.2.2.2.1.2.2.2 r.2.2.2.2.1 r.2.2.2.2.2.1 r.2.2.2.2.2.2.1.1 r.2.2.2.2.2.2.1.2 r.2.2.2.2.2.2.2 w.2.1 w.2.2.1 w.2.2.2.1 w.2.2.2.2 [] [] [] [])
    = some (agl w (fT w a (tv w.1 r k).1,(tv w.1 r k).2)):=by
  intro k
  induction k with
  |zero =>
   intro n g i;obtain⟨n,rfl⟩:∃m,n=m+1:=⟨n-1,by omega⟩;rw[Hl,aQ (show ¬((0:Nat):Int)-1>=0 by omega),aa,acj];rfl
  |succ k j =>
   intro n g i;obtain⟨n,rfl⟩:∃m,n=m+1:=⟨n-1,by omega⟩;have d:k<r.2.2.2.2.2.1.length:=by omega
   have l:=aFr c (r.2.2.2.2.2.1[k]).1 (c.l.tq _ (bP d)).1 true;rw[Hl,show((k+1:Nat):Int)-1=(k:Int) by omega,aL (show(k:Int)>=0 by omega),ae,an d,ab,ab,ab,aV d,Ni,lQ b (by omega)];unfold tv;rw[aI d,show((r.2.2.2.2.2.1[k]).2.1.toList==ak.toList)=di (r.2.2.2.2.2.1[k]).2.1 from rfl];cases q:di (r.2.2.2.2.2.1[k]).2.1 with
   |true =>
    rw[ag rfl,ae,aG (by omega) (by omega)];exact j n (by omega) (by omega)
   |false =>
    rw[af (by decide),aa];refine B2 (n7 (fun x=>Option.bind x _) l) ?_;rw[ai];cases (fE w.1 r (r.2.2.2.2.2.1[k]).1 (r.2.2.2.2.2.1[k]).2.1 true).2 with
    |false=>rfl
    |true =>
     rw[ag rfl,ag rfl];dsimp only;rw[aN,aa,ab,Ni];rfl
 exact key r.2.2.2.2.2.1.length F0.n (bF _) (by rw[bz];omega)
def aHq {w:ah}{a:Int}(r:aw)(list:List jw):oI (fT w a r) a list=fT (oI w a list) a r:=by
 have e:aE (fT w a r)=aE w:=by unfold aE fT;dsimp only;rw[tw]
 unfold oI;rw[e];split<;>rfl
def az7 (w:ah)(a:Int):ah×Int:=if w.2.2.2.1.length+(bb w a).length<=60/\w.2.2.2.2.length+(bb w a).length<=300 then (Bv (lI w a) (bb w a),0) else (w,4)
def az8 {w:ah}(h:aH w){a:Int}(b:0<=a)(d:a<w.2.2.1.length):IG F0 w a=some (agl w (az7 w a)):=by
 obtain⟨c,k⟩:=h.rep b d;have q:(bb w a).length<=30:=c.f.n;have f:∀p∈bb w a,fU p.2:=c.aJS;have r:=h.nl;have s:=h.sl;have l:=azL c;have g:=h.fT b c.Ry k;have m:KT F0 (w.1,w.2.1,w.2.2.1.set a.toNat (Ry (b3 w a)),w.2.2.2) a (bb w a)=some (lI w a,()):=by have:=aFw g.w g.sl a (list:=bb w a) (by omega) f;rw[aHq]at this;exact this
 have o:=h.lI b d;rw[alE,lQ b (by omega),ab,Jv b d,l,ai];dsimp only;rw[show(b3 w a).2.2.2.2.2.2.2=bb w a from rfl,aG (n:=(w.2.2.2.1.length:Int)+(bb w a).length) (by omega) (by omega),aG (n:=(w.2.2.2.2.length:Int)+(bb w a).length) (by omega) (by omega),ab,m,ai,aks o.nl (by omega) f,ai];unfold az7;by_cases i:w.2.2.2.1.length+(bb w a).length<=60
 .rw[aQ (show ¬(w.2.2.2.1.length:Int)+(bb w a).length>60 by omega),aa];by_cases j:w.2.2.2.2.length+(bb w a).length<=300
  .rw[aQ (show ¬(w.2.2.2.2.length:Int)+(bb w a).length>300 by omega),aa,ag ⟨i,j⟩,w9];rfl
  .rw[aL (show(w.2.2.2.2.length:Int)+(bb w a).length>300 by omega),ae,af (fun e=>j e.2),F3 _ _ (by decide)];rfl
 .rw[aL (show(w.2.2.2.1.length:Int)+(bb w a).length>60 by omega),ae,af (fun e=>i e.1),F3 _ _ (by decide)];rfl
def aHr (w:ah)(d:dm):ah×Int :=
 if gE 0 (aj ((w.2.2.2.1.length:Int)-1)) d.2.1=true then
  if d.1=5 then (if w.2.2.2.1.length<60 then (Yn w (w.2.2.2.1++[cU w d.2.1]),0) else (w,4))
  else if d.1=3/\(cU w d.2.1).1 ∉ w.2.1 then (fT (OJ w d.2.1) (cU w d.2.1).1 (aiU false w (cU w d.2.1)),0) else (OJ w d.2.1,0)
 else (w,2)
def aJa {imp:Bool}{c:Int×Int}{r:aw}{m:b4}(h:(GQ imp c r m).2=false):(GQ imp c r m).1=r:=by
 unfold GQ at h ⊢;split
 .rename_i a;rw[ag a]at h;cases h
 .rfl
def aHs {w:ah}{a:Int}(b:0<=a)(c:a<w.2.2.1.length):w.2.2.1.set a.toNat (b3 w a)=w.2.2.1:=by unfold b3;rw[aI (show a.toNat<w.2.2.1.length by omega)];exact aAB _
def aJb {w:ah}{a:Int}(c:0<=a)(e:a<w.2.2.2.1.length)(d:gr):aK w.2.2.2.1 a d=cU w a:=by
 have b:a.toNat<w.2.2.2.1.length:=by omega
 unfold cU;rw[aI b];exact aI b d
def aCs {w:ah}(h:aH w)(d:dm):wW F0 w d=some (agl w (aHr w d)):=by
 have t:=h.nl;have u:=h.liars;have v:=h.le7;rw[aoJ,cP,ai];unfold aHr;cases l:gE 0 (aj ((w.2.2.2.1.length:Int)-1)) d.2.1 with
 |false=>rw[af (by decide),F3 _ _ (by decide)];rfl
 |true =>
  obtain⟨i,j⟩:=RC h l;have b:=h.aI9 i j;obtain⟨m,x⟩:=arb b.2.1;obtain⟨t0,t1⟩:=h.aCn b.2.2;obtain⟨n,hid⟩:=h.rep t0 t1;have o:aj (d.2.1+1)=d.2.1+1:=aG (by omega) (by omega);have p:(d.2.1+1).toNat=d.2.1.toNat+1:=by omega
  have q:([]++w.2.2.2.1.take d.2.1.toNat)++(w.2.2.2.1.take (w.2.2.2.1.length:Int).toNat).drop (d.2.1+1).toNat=adj w.2.2.2.1 d.2.1.toNat:=by rw[ho,kc,p];rfl
  have y:(w.2.2.2.1.take d.2.1.toNat).length<=60:=by rw[bB];omega
  have z:((w.2.2.2.1.take (w.2.2.2.1.length:Int).toNat).drop (d.2.1+1).toNat).length<=60:=by rw[bc,bB];omega
  have r:okT d.2.1 (w.2.2.2.1.length:Int)=true:=by simp[okT];omega
  rw[ag rfl,aN,aa,lQ i j,ab,aJb i j,ar (a:=0) (by omega) (by omega) (by have:=b.1.1;omega),ab,ar (by omega) (by omega) (by first|omega|(simp only[aJ,aW,bm];omega)|(rw[bc,bB];omega)),ab,r,ab,o,aqy (by omega) (by omega) (by omega),ab,ar (a:=0) (by omega) (by omega) (by omega),ab,ar (by omega) (by omega) (by rw[BA];omega),ab,
   q,fy (by omega),ai,at7 b.1,ai,lQ t0 t1,ab]
  dsimp only;rw[Jv t0 t1,azT n m,ai,ab];by_cases c:d.1=5
  .rw[bf.2 c,ae,ag c];by_cases g:w.2.2.2.1.length<60
   .rw[aQ (show ¬(w.2.2.2.1.length:Int)>=60 by omega),aa,ag g,w9];rfl
   .rw[aL (show(w.2.2.2.1.length:Int)>=60 by omega),ae,af g,F3 _ _ (by decide)];rfl
  .rw[bU.2 c,aa,af c];by_cases e:d.1=3
   .rw[bf.2 e,ae];by_cases f:(cU w d.2.1).1∈w.2.1
    .rw[aL f,aN,aa,af (fun k=>k.2 f),w9];rfl
    .rw[aQ f,ek,ae,ag ⟨e,f⟩,w9];unfold aiU;cases s:(GQ false w.1 (b3 w (cU w d.2.1).1) (gv w.1 (cU w d.2.1).2).1).2 with
     |true=>rfl
     |false =>
      rw[aJa s];have:=aHs t0 t1;show some (((w.1,w.2.1,w.2.2.1,adj w.2.2.2.1 d.2.1.toNat,w.2.2.2.2):ah),(0:Int),_)=some ((w.1,w.2.1,w.2.2.1.set _ _,adj w.2.2.2.1 d.2.1.toNat,w.2.2.2.2),0,EV);rw[this];rfl
   .rw[bU.2 e,aa,af (fun k=>e k.1),w9];rfl
def aHt (w:ah)(d:dm):ah×Int :=
 if gE 0 (aj (w.1.1-1)) d.2.1=true then (if GR w.1 w.2.1 w.2.2.2.2 d.2.2.2=true then (if w.2.2.2.1.length<60 then (Bv w [(d.2.1,d.2.2.2)],0) else (w,4)) else (w,5)) else (w,2)
def aCt {w:ah}(h:aH w){d:dm}(a:fU d.2.2.2):Na F0 w d=some (agl w (aHt w d)):=by
 have b:=h.nl;have e:=h.liars;have f:=h.sl;rw[aoQ,cP,ai,aCf (by omega) (by omega) a,ai,aks b (by simp) (fun p c=>by rw[fM.1 c];exact a),ai];unfold aHt;cases gE 0 (aj (w.1.1-1)) d.2.1 with
 |false=>rfl
 |true =>
  cases GR w.1 w.2.1 w.2.2.2.2 d.2.2.2 with
  |false=>rfl
  |true =>
   by_cases g:w.2.2.2.1.length<60
   .rw[aQ (show ¬(w.2.2.2.1.length:Int)>=60 by omega),ag g];rfl
   .rw[aL (show(w.2.2.2.1.length:Int)>=60 by omega),af g];rfl
def aHu (w:ah)(d:dm):ah×Int:=if d.1=2 then az7 w d.2.1 else amA false w d
def auy {w:ah}{x:ah×Int}:((some (agl w x):Option (ah×Int×ah)).bind fun r=>br (r.2.1==0) (some (r.1,(0:Int),EV)) (br (r.2.1==0) none (some (EV,r.2.1,w.1,r.2.2.2))))=some (agl w x):=by
 rw[ai];unfold agl;by_cases h:x.2=0
 .rw[ag h];rfl
 .rw[af h];dsimp only;rw[bU.2 h,aa,aa]
def aCu {w:ah}(h:aH w){d:dm}(o:fU d.2.2.2)(a:0<=d.2.1)(c:d.2.1<w.2.2.1.length):Nn F0 w d=some (agl w (aHu w d)):=by
 obtain⟨b,t⟩:=h.rep a c;have p:Qu F0 w.1 ((b3 w d.2.1).1,(b3 w d.2.1).2.1,(b3 w d.2.1).2.2.1,(b3 w d.2.1).2.2.2.1,(b3 w d.2.1).2.2.2.2.1,(b3 w d.2.1).2.2.2.2.2.1,ha (b3 w d.2.1).2.2.2.2.2.2.1 d.2.2.1,(b3 w d.2.1).2.2.2.2.2.2.2)=some (akt w.1 (b3 w d.2.1) d.2.2.1,()):=aHa (b.Yl d.2.2.1).bt (b.Yl d.2.2.1).ok;have e:=fun x:ah×Int=>auy (w:=w) (x:=x)
 unfold EV at e;rw[ao1,lQ a (by omega),ab,aCr h a c,az8 h a c,az6 h a c,Jv a c,dV b.bt,aB0 b.bt.d.1,aHg b,azT b o];have q:=e (aKn w d.2.1);have r:=e (az7 w d.2.1);have s:=e (aHp w d.2.1);unfold aHu amA adi;by_cases f:d.1=1
 .rw[bf.2 f,ae,af (by omega),ag f];exact q
 .rw[bU.2 f,aa,af f];by_cases g:d.1=2
  .rw[bf.2 g,ae,ag g];exact r
  .rw[bU.2 g,aa,af g];by_cases i:d.1=6
   .rw[bf.2 i,ae,ag i];exact s
   .rw[bU.2 i,aa,af i];by_cases j:d.1=8
    .rw[bf.2 j,ae,af (by omega),ag j,w9];simp only[ai,p,ab];rfl
    .rw[bU.2 j,aa];by_cases l:d.1=7
     .rw[bf.2 l,ae,ag l,ai];cases (BZ w.1 (b3 w d.2.1)).2 with
      |false=>rw[af (by decide),F3 _ _ (k:=3) (show(3:Int)≠0 by decide)];rfl
      |true=>rw[ag rfl,w9,ab];rfl
     .rw[bU.2 l,aa,af l,af j,ai];unfold axy;cases (GQ false w.1 (b3 w d.2.1) d.2.2.2).2 with
      |false=>rw[af (fun n=>by cases n.1),F3 _ _ (k:=3) (show(3:Int)≠0 by decide)];rfl
      |true =>
       by_cases m:d.2.2.2.1=4
       .rw[ag ⟨rfl,m⟩,w9,aN,aa,show(d.2.2.2.1 != 4)=false by simp[m],aa,ab];rfl
       .rw[af (fun n=>m n.2),F3 _ _ (k:=3) (show(3:Int)≠0 by decide),aN,aa,show(d.2.2.2.1 != 4)=true by simp[m],ae];rfl
def aCv (w:ah)(d:dm):ah×Int:=if HV d=true then aHr w d else if d.1=10 then aHt w d else if d.2.1∈aE w then aHu w d else (w,2)
def aCw {w:ah}(h:aH w){d:dm}(g:fU d.2.2.2):No F0 w d=some (agl w (aCv w d)):=by
 have hlen:=F1 w;have p:=h.le7;have b:=fun x:ah×Int=>auy (w:=w) (x:=x)
 unfold EV at b;have f:=b (aHr w d);have k:=b (aHt w d);have l:=b (aHu w d);rw[ao3,aCs h,aCt h g,aqm h.w.l];unfold aCv;by_cases c:HV d=true
 .rw[ag c];by_cases i:d.1=3
  .rw[bf.2 i,ae];exact f
  .rw[bU.2 i,aa];by_cases j:d.1=4
   .rw[bf.2 j,ae];exact f
   .have m:d.1=5:=by have:=fJ.1 c;omega
    rw[bU.2 j,aa,bf.2 m,ae];exact f
 .have q:¬(d.1=3\/d.1=4\/d.1=5):=fun a=>c (fJ.2 a)
  rw[af c,bU.2 (show d.1≠3 by omega),aa,bU.2 (show d.1≠4 by omega),aa,bU.2 (show d.1≠5 by omega),aa];by_cases e:d.1=10
  .rw[bf.2 e,ae,ag e];exact k
  .rw[bU.2 e,aa,af e,ai,fy (by dsimp only;omega),ai];by_cases a:d.2.1∈aE w
   .obtain⟨n,o⟩:=eQ a;rw[aL a,aN,aa,ag a,aCu h g n o];exact l
   .rw[aQ a,ek,ae,af a,F3 _ _ (by decide)];rfl
def az9 (w:ah)(d:dm):ah:=if (aCv w d).2=0 then (aCv w d).1 else w
def aAa {w:ah}(h:aH w){d:dm}(b:fU d.2.2.2):II F0 w d=some ((az9 w d,()),()):=by
 rw[alK,aCw h b,ai];unfold az9 agl;by_cases a:(aCv w d).2=0
 .rw[ag a,ag a];rfl
 .rw[af a,af a];dsimp only;rw[bU.2 a,aa,show((aCv w d).2 != 0)=true by simp[a],ae]
def aH.aLV {w:ah}(h:aH w)(d:dm):aH (az9 w d):=by
 unfold az9;split
 .rename_i f;clear f;unfold aCv;split
  .unfold aHr;split
   .rename_i i;obtain⟨b,c⟩:=RC h i;have e:=h.aI9 b c;split
    .split
     .rename_i g;refine h.Yn (by rw[aJ,cR];omega) fun x a=>?_
      rcases gF.1 a with a|a
      .exact h.nb x a
      .rw[fM.1 a];exact e
     .exact h
    .split
     .obtain⟨t0,t1⟩:=h.aCn e.2.2;obtain⟨j,hid⟩:=h.rep t0 t1;exact(h.OJ d.2.1).fT t0 (j.heard false _) (by unfold aiU;rw[axw];exact hid)
     .exact h.OJ _
   .exact h
  .split
   .unfold aHt;split
    .split
     .split
      .exact h.send _
      .exact h
     .exact h
    .exact h
   .split
    .rename_i k;obtain⟨b,c⟩:=eQ k;unfold aHu;split
     .unfold az7;split
      .exact(h.lI b c).send _
      .exact h
     .exact h.amA false b c
    .exact h
 .exact h
def GS (i:Int):aw:=(i,1,0,j8,[],[],([],0),[])
def SW (c:Int×Int)(liars:List Int):ah:=(c,liars,(List.range c.1.toNat).map fun i:Nat=>GS (i:Int),[],[])
def ard {c:Int×Int}(a:bw c=true){i:Int}(e:0<=i)(f:i<c.1):aY c (GS i):=by have d:=b5 a;refine⟨⟨a,?_,rfl,rfl,adh a,rfl,rfl,rfl,aR _,fun x b=>by cases b⟩,fun x b=>by cases b⟩;show gE 0 (aj (c.1-1)) i=true;rw[XW d.1 d.2.1];simp only[gE,aF,bW];omega
def aHv {c:Int×Int}(a:bw c=true){liars:List Int}(d:kf c.1 liars=true)(e:(liars.length:Int)<=wC c):aH (SW c liars):=by
 have m:=b5 a;refine⟨a,d,e,?_,fun r f=>?_,fun k g=>?_,aR _,(fun x b=>by cases b),aR _,(fun x b=>by cases b)⟩
 .show(((List.range c.1.toNat).map fun i:Nat=>GS (i:Int)).length:Int)=c.1;rw[o8,ZM];omega
 .obtain⟨i,h,rfl⟩:=EY.1 f;have:=eS.1 h;exact ard a (by omega) (by omega)
 .have j:k<((List.range c.1.toNat).map fun i:Nat=>GS (i:Int)).length:=g;have l:(((List.range c.1.toNat).map fun i:Nat=>GS (i:Int))[k]'j).1=(k:Int):=by rw[List.getElem_map,List.getElem_range];rfl
  exact l
def aCx {c:Int×Int}(b:bw c=true){i:Int}(d:0<=i)(e:i<c.1):MB F0 c i=some (GS i,true,()):=by
 have a:=ard b d e;have f:dx F0 c (i,1,0,(0,0,(0,ak,[]),ak),[],[],([],0),[])=some (true,()):=by have:=hU a.l c;rw[a.ok]at this;exact this
 rw[aoa,f];rfl
def aAb {c:Int×Int}(b:bw c=true){i:Int}(d:0<=i)(e:i<c.1):Ny F0 c i=some (GS i,true,()):=by
 have a:=ard b d e;have f:cp F0 c (i,1,0,(0,0,(0,ak,[]),ak),[],[],([],0),[])=some (true,()):=by have:=dR a.l c;rw[a.ok]at this;exact this
 rw[api,f];rfl
def SX {c:Int×Int}{liars:List Int}(h:aH (SW c liars)):lv F0 c liars=some (SW c liars,true,()):=by
 have b:=b5 h.c;have d:bw c=true:=h.c;have f:liars.length<=7:=h.liars;have g:(c.1.toNat:Int)=c.1:=Pl (by have:4<=c.1:=b.1;omega);have j:c.1.toNat<=7:=by have:c.1<=7:=b.2.1;omega
 rw[agY,ar (a:=0) (by omega) (by omega) (by omega),ab];refine aBV (fun n k xs=>uA F0 (yB F0) n (pb k c.1 c.2 0 0 c.1 c.2 [] [] [] [] ([]++liars) xs [] [])) (List.range c.1.toNat) (fun i:Nat=>GS (i:Int)) _ (fun n k xs e l=>?_) (fun n=>?_) _ (by rw[bz,ZM];omega)
 .have m:k<c.1.toNat:=by rw[ZM]at e;exact e
  rw[Fa,aL (show(k:Int)<c.1 by omega),ae,show((c.1,c.2):Int×Int)=c from rfl,ir,ai,d,ae,aCx d (by omega) (by omega),ai,ar (by omega) (by omega) (by first|omega|(simp only[aJ,aW,bm];omega)|(rw[bc,bB];omega)),ab,al (by omega),List.getElem_range]
 .have dd:yA F0 ((c.1,c.2),[]++liars,((List.range c.1.toNat).map fun i:Nat=>GS (i:Int),([],[])))=some (true,()):=by have:=azd h.w.l;rw[h.ok]at this;exact this
  rw[Fa,ZM,aQ (show ¬(c.1.toNat:Int)<c.1 by omega),aa,Zf,dd];rfl
def ata {c:Int×Int}{liars:List Int}(h:aH (SW c liars)):tO F0 c liars=some (SW c liars,true,()):=by
 have b:=b5 h.c;have a:bw c=true:=h.c;have e:liars.length<=7:=h.liars;have f:(c.1.toNat:Int)=c.1:=Pl (by have:4<=c.1:=b.1;omega);have g:c.1.toNat<=7:=by have:c.1<=7:=b.2.1;omega
 rw[ahG,n1 (by omega),ai];refine aBV (fun n k xs=>vq F0 (AB F0) n (pD k c.1 c.2 0 0 c.1 c.2 [] [] [] [] liars xs [] [])) (List.range c.1.toNat) (fun i:Nat=>GS (i:Int)) _ (fun n k xs d j=>?_) (fun n=>?_) _ (by rw[bz,ZM];omega)
 .have l:k<c.1.toNat:=by rw[ZM]at d;exact d
  rw[Fz,show((c.1,c.2):Int×Int)=c from rfl,fQ,ai,a,ae,aL (show(k:Int)<c.1 by omega),ae,aAb a (by omega) (by omega),ai,ar (by omega) (by omega) (by first|omega|(simp only[aJ,aW,bm];omega)|(rw[bc,bB];omega)),ab,al (by omega),List.getElem_range]
 .have dd:bT F0 ((c.1,c.2),liars,((List.range c.1.toNat).map fun i:Nat=>GS (i:Int),([],[])))=some (true,()):=by have:=eP h.w.l;rw[h.ok]at this;exact this
  rw[Fz,show((c.1,c.2):Int×Int)=c from rfl,fQ,ai,a,ae,ZM,aQ (show ¬(c.1.toNat:Int)<c.1 by omega),aa,Zr,dd];rfl
def New (w:ah):Prop:=∃c liars,w=SW c liars/\aH (SW c liars)
def New.g {w:ah}(h:New w):aH w:=by obtain⟨c,l,rfl,a⟩:=h;exact a
def aLW (n:Int):kf n []=true:=rfl
def aLX {n x:Int}(a:0<=x)(b:x<n):kf n [x]=true:=by simp[kf,a,b]
def aCy {c:Int×Int}(h:bw c=true):1<=wC c:=by have a:=b5 h;unfold wC;rw[ag h];exact(ayS a.1 a.2.1).1
def aHw {c:xx}(h:SG c):Dr (U:=ah) (pc F0 c) New:=by
 unfold Dr;rw[Wi];refine Dr.bind (ac0 h (l:=[4,4,4,5,7]) (by decide) (by decide)) fun x g i=>Dr.bind (gZ i (n:=3) (by omega) (by omega)) fun y d j=>Dr.bind (amR j (n:=3) (by omega) (by omega)) fun z o e=>?_
 have p:x.1.1=4\/x.1.1=5\/x.1.1=7:=by simp only[cS,abC,or_false]at g;omega
 have q:=d.1;have r:=d.2;have b:bw (x.1.1,aj (1+y.1.1))=true:=by rw[aG (by omega) (by omega)];simp only[bw,gE,aF,bW];omega
 have k:=aCy b;refine Gd.br (fun _=>?_) fun _=>?_
 .refine Dr.bind (gZ e (n:=x.1.1) (by omega) (by omega)) fun v f m=>?_
  have a:aH (SW (x.1.1,aj (1+y.1.1)) [v.1.1]):=aHv b (aLX f.1 f.2) (by simpa using k);exact Gd.let (SX a) (Gd.ret ⟨⟨_,_,rfl,a⟩,m⟩)
 .have a:aH (SW (x.1.1,aj (1+y.1.1)) []):=aHv b (aLW _) (by simp;omega);exact Gd.let (SX a) (Gd.ret ⟨⟨_,_,rfl,a⟩,e⟩)
def aCz {a b:Int}{V:Type}{f:Int×Unit->Option V}{P:V->Prop}(h:Gd (f (GP a b,())) P):Gd ((bJ F0 a b).bind f) P:=Gd.let (YZ a b) h
def aHx {a b:Int}{V:Type}{f:Int×Unit->Option V}{P:V->Prop}(h:Gd (f (sY a b,())) P):Gd ((dJ F0 a b).bind f) P:=Gd.let (C4 a b) h
def auz {up:ByteArray}(d:up.size<=6000){view:Int}(a:I64 view){l:List dG}(e:l.length<=10){V:Type}{f:ByteArray×Unit->Option V}{P:V->Prop}(h:∀b:ByteArray,b.size<=7000->Gd (f (b,())) P):Gd ((kO F0 up view l).bind f) P:=by have c:=aqx (up:=up.data.toList) (by show up.size<=_;omega) a (l:=l) (by omega);have g:=auh (up:=up.data.toList) a l;refine Gd.let c (h _ ?_);rw[bD];have:up.data.toList.length=up.size:=rfl;omega
def adl {w:ah}(h:aH w)(view:Int)(name:ByteArray)(d:name.size<=1048576){c:xx}(e:SG c) :
  Gd (cK F0 (eD F0) F0.n (cr view name 0 c.1 c.2.1 c.2.2 w.1.1 w.1.2 w.2.1 w.2.2.1 w.2.2.2.1 w.2.2.2.2 0 0 ak 0 ak 0 ak 0 ak 0 0 0 0 0 ([]++w.2.1) [] [] [])) fun z:DrT b4=>(∃q:bZ,z.1.1=Bu q/\uc q)/\SG z.2.1:=by
 have g:=h.sl;have j:=h.liars;refine amP (fun n i (z:List Int)=>cK F0 (eD F0) n (cr view name i c.1 c.2.1 c.2.2 w.1.1 w.1.2 w.2.1 w.2.2.1 w.2.2.2.1 w.2.2.2.2 0 0 ak 0 ak 0 ak 0 ak 0 0 0 0 0 z [] [] [])) w.2.2.2.2.length (fun k z=>z.length<=7+k) _ (fun n k z b f a=>?_) (fun n z f=>?_) F0.n 0 ([]++w.2.1) (aR _) (by show w.2.1.length<=_;omega) (by rw[bz];omega)
 .rw[tI,aM b,ae,an b,ab,ab,ab,al (by omega)];refine Gd.br (fun _=>Gd.br (fun _=>Gd.let (acP (by omega) _) ?_) fun _=>?_) fun _=>?_
  .exact a _ (by have:=ap7 z (aK w.2.2.2.2 (k:Int) L1).2.2;exact bY (ap7 _ _) (by omega))
  .exact a _ (by omega)
  .exact a _ (by omega)
 .rw[tI,aB,aa,P2];exact Gd.ret ⟨⟨(view,name,z),rfl,d,by show z.length<=_;omega⟩,e⟩
def aHy {c:xx}(k:SG c){w:ah}(h:aH w):Dr (U:=b4) (pn F0 c w) fun m=>∃q:bZ,m=Bu q/\uc q:=by
 have t:=h.sl;have u:=h.liars;unfold Dr;rw[Wu];refine Dr.bind (gZ k (n:=4) (by omega) (by omega)) fun x e f=>?_
 have v:=e.1;have A:=e.2;refine auz (aR _) (by rw[aG (by omega) (by omega)];exact⟨by omega,by omega⟩) (aR _) fun b l=>?_
 refine Gd.ck (ar (a:=0) (by omega) (by omega) (by omega)) (Gd.br (fun hlen=>?_) fun _=>adl h _ _ (by show b.size<=_;omega) f);have B:0<w.2.2.2.2.length:=by have:=lE hlen;omega
 refine aCz ?_;have m0:0<GP (w.2.2.2.2.length:Int) 8:=by unfold GP;split<;>omega
 have m1:GP (w.2.2.2.2.length:Int) 8<=w.2.2.2.2.length:=by unfold GP;split<;>omega
 refine Dr.bind (gZ f (n:=GP (w.2.2.2.2.length:Int) 8) m0 (by omega)) fun y g o=>?_
 have C:=g.1;have D:=g.2;have p:aj (aj ((w.2.2.2.2.length:Int)-1)-y.1.1)=((w.2.2.2.2.length-1-y.1.1.toNat:Nat):Int):=by rw[aG (n:=(w.2.2.2.2.length:Int)-1) (by omega) (by omega),aG (by omega) (by omega)];omega
 have d:w.2.2.2.2.length-1-y.1.1.toNat<w.2.2.2.2.length:=by omega
 have i:=h.sb _ (bP d);have r:=oZ i.2.1;have E:=mS (w.2.2.2.2[w.2.2.2.2.length-1-y.1.1.toNat]).2.1.data.toList;have s:=i.2.2;rw[p];refine Gd.ck (an d) (Dr.bind (amR o (n:=3) (by omega) (by omega)) fun z F j=>?_);rw[aV d];refine Gd.br (fun _=>Gd.let (afJ (bY r (by omega))) ?_) fun _=>adl h _ _ (by omega) j
 refine auz (up:=upB (w.2.2.2.2[w.2.2.2.2.length-1-y.1.1.toNat]).2.1) (bY (L9 _) (by omega)) (by rw[<-s];exact⟨by omega,by omega⟩) (by simp) fun b l=>adl h _ _ (by show b.size<=_;omega) j
def are {c:Int×Int}{q:bZ}{view:Int}{l:List dG}:(iG c q view l).1.1.size<=1048576/\uc (iG c q view l).1.2:=by
 unfold iG;split
 .rename_i a;exact JO a.1
 .exact⟨aR _,fD⟩
def aHz {w:ah}(h:aH w){q:bZ}(b:eT w.1 q=true)(cv:Int){view:Int}(d:0<=view)(e:view<=61){c:xx}(f:SG c) :
  Gd (bK F0 (bo F0) F0.n (bn cv view 0 c.1 c.2.1 c.2.2 w.1.1 w.1.2 w.2.1 w.2.2.1 w.2.2.2.1 w.2.2.2.2 0 0 ak 0 ak 0 ak 0 ak 0 0 0 0 0 q.1 q.2.1 [] [] [] q.2.2)) fun z:DrT b4=>fU z.1.1/\SG z.2.1:=by
 have out:∀v:Int,0<=v->v<=61->Gd (bo F0 (.exit 1) (gP v c.1 c.2.1 c.2.2 w.1.1 w.1.2 w.2.1 w.2.2.1 w.2.2.2.1 w.2.2.2.2 0 0 ak 0 ak 0 ak 0 ak 0 0 0 0 0 q.1 q.2.1 [] [] [] q.2.2)) fun z:DrT b4=>fU z.1.1/\SG z.2.1:=fun v o p=>by
  rw[U2];refine Dr.bind (aug f) fun x r g=>?_
  have i:=agc (c:=w.1) b (view:=v) ⟨by omega,by omega⟩ (l:=[x.1.1]) (by simp);exact Gd.let i (Gd.ret ⟨ac9 are.1 are.2,g⟩)
 refine amP (fun n k (v:Int)=>bK F0 (bo F0) n (bn cv v k c.1 c.2.1 c.2.2 w.1.1 w.1.2 w.2.1 w.2.2.1 w.2.2.2.1 w.2.2.2.2 0 0 ak 0 ak 0 ak 0 ak 0 0 0 0 0 q.1 q.2.1 [] [] [] q.2.2)) 7 (fun k v=>0<=v/\v<=61) _ (fun n k v s a j=>?_) (fun n v a=>?_) F0.n 0 view (aR _) ⟨d,e⟩ (by rw[bz];omega)
 .have i0:=a.1;have i1:=a.2;rw[yS,aL (show(k:Int)<7 by omega),ae];refine Gd.br (fun m=>Gd.let (LV _ _) (Gd.br (fun _=>?_) fun _=>out v i0 i1)) fun _=>out v i0 i1
  have t:=lE m;rw[aG (n:=v+1) (by omega) (by omega),al (by omega)];exact j (v+1) ⟨by omega,by omega⟩
 .rw[yS,aQ (show ¬((7:Nat):Int)<7 by omega),aa];exact out v a.1 a.2
def aAc {w:ah}(h:aH w){q:bZ}(b:eT w.1 q=true)(cv:Int){m:b4}(g:fU m){c:xx}(i:SG c) :
  Gd ((av F0 c 4).bind fun a=>br (a.1.1==0) (some ((m,()),a.2.1,())) (br (a.1.1==1) ((av F0 a.2.1 2).bind fun f=>(bJ F0 (aj ((aj (q.1+1))+f.1.1)) 60).bind fun j=>some (((3,j.1,(ak,0,ak,[]),(0,ak,[]),q,cv,0,0,0,0),()),f.2.1,())) (bK F0 (bo F0) F0.n (bn cv (aj (q.1+1)) 0 a.2.1.1 a.2.1.2.1 a.2.1.2.2 w.1.1 w.1.2 w.2.1 w.2.2.1 w.2.2.2.1 w.2.2.2.2 0 0 ak 0 ak 0 ak 0 ak 0 0 0 0 0 q.1 q.2.1 [] [] [] q.2.2)))) fun z:DrT b4=>fU z.1.1/\SG z.2.1:=by
 obtain⟨_,_,l,_⟩:=j4 b;have o:=mS q.2.1.data.toList;have e:aj (q.1+1)=q.1+1:=aG (by omega) (by omega);refine Dr.bind (gZ i (n:=4) (by omega) (by omega)) fun x p d=>Gd.br (fun _=>Gd.ret ⟨g,d⟩) fun _=>Gd.br (fun _=>?_) fun _=>?_
 .exact Dr.bind (gZ d (n:=2) (by omega) (by omega)) fun y r k=>aCz (Gd.ret ⟨Rw (Ph b) cv,k⟩)
 .rw[e];exact aHz h b cv (by omega) (by omega) d
def aAd {c:Int×Int}(a:bw c=true):eT c b9=true:=by unfold eT ZI;simp only[a];rfl
def aAe:It F0=some (b9,()):=by rw[ald];rfl
def aKo {c:xx}(v:SG c){w:ah}(h:aH w):Dr (U:=b4) (ia F0 c w) fU:=by
 have D:=h.le7;have E:=h.liars;unfold Dr;rw[ab8];refine Dr.bind (aHy v h) fun x A f=>?_
 obtain⟨q,e,o⟩:=A;obtain⟨⟨m,u⟩,⟨F,G⟩⟩:=x;dsimp only at e f ⊢;subst e;have p:=aiO o;have cv:∀(Q:bZ),eT w.1 Q=true->∀g:xx,SG g->Gd (br (decide ((w.2.1.length:Int)>0)) ((av F0 g (w.2.1.length:Int)).bind fun i=>ck (bG i.1.1 (w.2.1.length:Int)) ((av F0 i.2.1 4).bind fun a=>br (a.1.1==0) (some ((Bu q,()),a.2.1,())) (br (a.1.1==1) ((av F0 a.2.1 2).bind fun d=>(bJ F0 (aj ((aj (Q.1+1))+d.1.1)) 60).bind fun k=>some (((3,k.1,(ak,0,ak,[]),(0,ak,[]),Q,aK w.2.1 i.1.1 0,0,0,0,0),()),d.2.1,())) (bK F0 (bo F0) F0.n (bn (aK w.2.1 i.1.1 0) (aj (Q.1+1)) 0 a.2.1.1 a.2.1.2.1 a.2.1.2.2 w.1.1 w.1.2 w.2.1 w.2.2.1 w.2.2.2.1 w.2.2.2.2 0 0 ak 0 ak 0 ak 0 ak 0 0 0 0 0 Q.1 Q.2.1 [] [] [] Q.2.2))))) ((av F0 g 4).bind fun a=>br (a.1.1==0) (some ((Bu q,()),a.2.1,())) (br (a.1.1==1) ((av F0 a.2.1 2).bind fun d=>(bJ F0 (aj ((aj (Q.1+1))+d.1.1)) 60).bind fun k=>some (((3,k.1,(ak,0,ak,[]),(0,ak,[]),Q,0,0,0,0,0),()),d.2.1,())) (bK F0 (bo F0) F0.n (bn 0 (aj (Q.1+1)) 0 a.2.1.1 a.2.1.2.1 a.2.1.2.2 w.1.1 w.1.2 w.2.1 w.2.2.1 w.2.2.2.1 w.2.2.2.2 0 0 ak 0 ak 0 ak 0 ak 0 0 0 0 0 Q.1 Q.2.1 [] [] [] Q.2.2))))) fun z:DrT b4=>fU z.1.1/\SG z.2.1:=fun Q r g s=>by
  refine Gd.br (fun B=>?_) fun _=>aAc h r 0 p s
  have:=lE B;refine Dr.bind (gZ s (n:=(w.2.1.length:Int)) (by omega) (by omega)) fun y l j=>Gd.ck (lQ l.1 l.2) (aAc h r _ p j)
 refine Gd.let (SA (q:=q) o w.1) (Gd.br (fun _=>Gd.let aAe (Gd.br (fun _=>?_) fun _=>cv b9 (aAd h.c) _ f)) fun dd=>cv q (by simpa using dd) _ f);refine Dr.bind (amR f (n:=2) (by omega) (by omega)) fun y l j=>Gd.br (fun _=>?_) fun _=>cv b9 (aAd h.c) _ j
 refine Dr.bind (gZ j (n:=(w.2.2.1.length:Int)) (by omega) (by omega)) fun z b C=>Gd.ck (lQ b.1 b.2) ?_
 have t:=(h.rep b.1 b.2).1;rw[Jv b.1 b.2];exact Gd.let (wE t.l.s.1.2) (cv _ (cL t.f.s).2.2.1 _ C)
def aLi:b4:=(0,0,(ak,b9),b9,b9,0,mW)
def Jw:fU aLi:=⟨aR _,fD,fD,fD⟩
def akv (d:dm):Prop:=fU d.2.2.2
def aiX {w:ah}(h:aH w)(a:Int){c:xx}(b:SG c) :
  Gd (br ((w.2.2.2.1.length:Int)==0) (some (((2,a,0,0,0,(ak,0,ak,[]),(0,ak,[]),(0,ak,[]),0,0,0,0,0),()),c,())) ((bJ F0 (w.2.2.2.1.length:Int) 4).bind fun e=>(av F0 c e.1).bind fun d=>some (((3,d.1.1,0,0,0,(ak,0,ak,[]),(0,ak,[]),(0,ak,[]),0,0,0,0,0),()),d.2.1,()))) fun z:DrT dm=>akv z.1.1/\SG z.2.1:=by
 refine Gd.br (fun _=>Gd.ret ⟨Jw,b⟩) fun f=>aCz ?_
 have i:(w.2.2.2.1.length:Int)≠0:=by simpa using f
 have m0:0<GP (w.2.2.2.1.length:Int) 4:=by unfold GP;split<;>omega
 have m1:GP (w.2.2.2.1.length:Int) 4<=4:=by unfold GP;split<;>omega
 exact Dr.bind (gZ b (n:=GP (w.2.2.2.1.length:Int) 4) m0 (by omega)) fun y j g=>Gd.ret ⟨Jw,g⟩
def aHA {a:Int}{n k:Nat}(b:0<=a)(c:a<n)(d:k<n)(e:n<=7):0<=Int.tmod (aj (a+(k:Int))) (n:Int)/\Int.tmod (aj (a+(k:Int))) (n:Int)<n:=by rw[aG (by omega) (by omega),amZ (by omega)];exact⟨Vn _ (by omega),am2 _ (by omega)⟩
def nz0 {n:Nat}(h:0<n):(!((n:Int)==0))=true:=by simp;omega
def arf {w:ah}(h:aH w){a:Int}(i:0<=a)(j:a<w.2.2.1.length){c:xx}(d:SG c) :
  Gd (dM F0 (dN F0) F0.n (cZ (w.2.2.1.length:Int) a 0 c.1 c.2.1 c.2.2 w.1.1 w.1.2 w.2.1 w.2.2.1 w.2.2.2.1 w.2.2.2.2 0 0 0 0 0 ak 0 ak 0 ak 0 ak 0 0 0 0 0 [] [] [])) fun z:DrT dm=>akv z.1.1/\SG z.2.1:=by
 have l:=h.le7;have p:=h.liars;refine amP (fun n k (z:Unit)=>dM F0 (dN F0) n (cZ (w.2.2.1.length:Int) a k c.1 c.2.1 c.2.2 w.1.1 w.1.2 w.2.1 w.2.2.1 w.2.2.2.1 w.2.2.2.2 0 0 0 0 0 ak 0 ak 0 ak 0 ak 0 0 0 0 0 [] [] [])) w.2.2.1.length (fun _ _=>True) _ (fun n k z e m f=>?_) (fun n z m=>?_) F0.n 0 () (aR _) trivial (by rw[bz];omega)
 .obtain⟨b,g⟩:=aHA i j e l.2;have o:=(h.rep b g).1;rw[wV,aM e,ae,nz0 (by omega),ab,lQ b (by omega),ab,Jv b g,ab,ab,U4,al (by omega)];refine Gd.let (aD3 o) (Gd.br (fun _=>?_) fun _=>f () trivial);refine Gd.let (fy (by omega) _) (Gd.br (fun _=>?_) fun _=>f () trivial);exact Gd.ret ⟨Jw,d⟩
 .rw[wV,aB,aa,R3];exact Gd.ret ⟨Jw,d⟩
def Y7 {w:ah}(h:aH w){a:Int}(e:0<=a)(f:a<w.2.2.1.length){c:xx}(b:SG c) :
  Gd (dL F0 (cY F0) F0.n (cX (w.2.2.1.length:Int) a 0 c.1 c.2.1 c.2.2 w.1.1 w.1.2 w.2.1 w.2.2.1 w.2.2.2.1 w.2.2.2.2 0 0 0 0 0 ak 0 ak 0 ak 0 ak 0 0 0 0 0 [] [] [])) fun z:DrT dm=>akv z.1.1/\SG z.2.1:=by
 have g:=h.le7;refine amP (fun n k (z:Unit)=>dL F0 (cY F0) n (cX (w.2.2.1.length:Int) a k c.1 c.2.1 c.2.2 w.1.1 w.1.2 w.2.1 w.2.2.1 w.2.2.2.1 w.2.2.2.2 0 0 0 0 0 ak 0 ak 0 ak 0 ak 0 0 0 0 0 [] [] [])) w.2.2.1.length (fun _ _=>True) _ (fun n k z d i j=>?_) (fun n z i=>?_) F0.n 0 () (aR _) trivial (by rw[bz];omega)
 .obtain⟨l,m⟩:=aHA e f d g.2;rw[wU,aM d,ae,nz0 (by omega),ab,lQ l (by omega),ab,ab,U3,al (by omega)];refine Gd.br (fun _=>?_) fun _=>j () trivial
  exact Gd.ret ⟨Jw,b⟩
 .rw[wU,aB,aa,R2];exact aiX h a b
def arh {w:ah}(h:aH w)(a:Int){c:xx}(b:SG c) :
  Gd (br (decide ((w.2.1.length:Int)>0)) ((ia F0 c w).bind fun d=>some (((10,a,0,d.1.1),()),d.2.1,())) (br ((w.2.2.2.1.length:Int)==0) (some (((2,a,0,0,0,(ak,0,ak,[]),(0,ak,[]),(0,ak,[]),0,0,0,0,0),()),c,())) ((bJ F0 (w.2.2.2.1.length:Int) 4).bind fun f=>(av F0 c f.1).bind fun e=>some (((3,e.1.1,0,0,0,(ak,0,ak,[]),(0,ak,[]),(0,ak,[]),0,0,0,0,0),()),e.2.1,())))) fun z:DrT dm=>akv z.1.1/\SG z.2.1 :=
 Gd.br (fun _=>Dr.bind (aKo b h) fun x g i=>Gd.ret ⟨g,i⟩) fun _=>aiX h a b
def aJc {c:xx}(i:SG c){w:ah}(h:aH w):Dr (U:=dm) (rT F0 c w) akv:=by
 have p:=h.le7;have q:=h.nl;unfold Dr;rw[Zl];refine aHx ?_;have m:sY (w.2.2.1.length:Int) 1=w.2.2.1.length:=by unfold sY;rw[af (by omega)]
 dsimp only;rw[m];refine Dr.bind (gZ i (n:=(w.2.2.1.length:Int)) (by omega) (by omega)) fun x j k=>?_
 obtain⟨b,d⟩:=j;refine Dr.bind (gZ k (n:=20) (by omega) (by omega)) fun y r a=>?_
 refine Gd.br (fun _=>arf h b d a) fun _=>Gd.br (fun _=>arf h b d a) fun _=>Gd.br (fun _=>arf h b d a) fun _=>Gd.br (fun _=>Y7 h b d a) fun _=>Gd.br (fun _=>Y7 h b d a) fun _=>Gd.br (fun _=>Y7 h b d a) fun _=>Gd.br (fun _=>Y7 h b d a) fun _=>Gd.br (fun _=>Gd.ret ⟨Jw,a⟩) fun _=>Gd.br (fun _=>Gd.ret ⟨Jw,a⟩) fun _=>Gd.br (fun _=>?_) fun _=>Gd.br (fun _=>?_) fun _=>Gd.br (fun _=>arh h _ a) fun _=>Gd.br (fun _=>arh h _ a) fun _=>Gd.br (fun _=>arh h _ a) fun _=>aiX h _ a
 .refine Dr.bind (amR a (n:=2) (by omega) (by omega)) fun z s f=>Gd.br (fun _=>?_) fun _=>?_
  .exact Dr.bind (ac0 f (l:=[0,0,5,40,9999]) (by decide) (by decide)) fun v g e=>Gd.ret ⟨Jw,e⟩
  .refine Dr.bind (gZ f (n:=2) (by omega) (by omega)) fun v g e=>aHx ?_
   have m0:0<sY (w.2.2.2.1.length:Int) 1:=by unfold sY;split<;>omega
   have m1:sY (w.2.2.2.1.length:Int) 1<=60:=by unfold sY;split<;>omega
   exact Dr.bind (gZ e (n:=sY (w.2.2.2.1.length:Int) 1) m0 (by omega)) fun u t o=>Gd.ret ⟨Jw,o⟩
 .exact Dr.bind (aug a) fun v g e=>Gd.ret ⟨⟨aR _,fD,fD,fD⟩,e⟩
def aHB {code:List Int}(h:code.length<=1048576):∃v:Int,MK F0 code 70 140=some (v,())/\70<=v/\v<=140:=by
 have a:Int.tdiv (code.length:Int) 4=(code.length:Int)/4:=am0 (by omega);rw[aok,a,aG (n:=(code.length:Int)/4) (by omega) (by omega),aG (by omega) (by omega)];by_cases g:70+(code.length:Int)/4>140
 .rw[aL g];exact⟨140,rfl,by omega,by omega⟩
 .rw[aQ g];exact⟨70+(code.length:Int)/4,rfl,by omega,by omega⟩
def aFA {code:List Int}(h:code.length<=1048576):Gd (ve F0 code) fun z=>New z.1/\z.2.1.length<=140/\∀d∈z.2.1,akv d:=by
 rw[ack];refine Gd.bind (aKf h) fun B r=>Dr.bind (aHw r) fun s i cs=>?_
 have j:=i.g;refine Gd.let (akl j.w) ?_;obtain⟨v,t,C,D⟩:=aHB h;refine Gd.let t (Dr.bind (gZ cs (n:=v) (by omega) (by omega)) fun a f u=>?_);obtain⟨E,F⟩:=f;have key:∀(b k:Nat) (z:xx×(ah×List dm)) (n:Nat),(k:Int)+b=a.1.1->SG z.1->aH z.2.1->z.2.2.length<=k->(∀d∈z.2.2,akv d)->b<n->k<=140 ->
   Gd (pA F0 (tj F0) n (lN a.1.1 (k:Int) 0 0 z.1.1 z.1.2.1 z.1.2.2 s.1.1.1.1 s.1.1.1.2 z.2.1.1.1 z.2.1.1.2 z.2.2 [] [] [] [] s.1.1.2.1 s.1.1.2.2.1 s.1.1.2.2.2.1 s.1.1.2.2.2.2 z.2.1.2.1 z.2.1.2.2.1 z.2.1.2.2.2.1 z.2.1.2.2.2.2)) fun z=>New z.1/\z.2.1.length<=140/\∀d∈z.2.1,akv d:=by
  intro b
  induction b with
  |zero =>
   intro k z n w l e o c f p;obtain⟨n,rfl⟩:∃m,n=m+1:=⟨n-1,by omega⟩;rw[Ae,aQ (show ¬(k:Int)<a.1.1 by omega),aa,U5];exact Gd.ret ⟨i,bY o p,c⟩
  |succ b y =>
   intro k z n w l e o c f p;obtain⟨n,rfl⟩:∃m,n=m+1:=⟨n-1,by omega⟩;rw[Ae,aL (show(k:Int)<a.1.1 by omega),ae];refine Dr.bind (aJc l e) fun d q A=>Gd.ck (ar (by omega) (by omega) (by simp only[aW,bm];omega)) (Gd.let (aAa e q) ?_)
   rw[al (by omega)];exact y (k+1) (d.2.1,az9 z.2.1 d.1.1,z.2.2++[d.1.1]) n (by omega) A (e.aLV _) (by rw[aJ,cR];omega) (fun x g=>(gF.1 g).elim (c x) fun g=>by rw[fM.1 g];exact q) (by omega) (by omega)
 exact key a.1.1.toNat 0 (a.2.1,s.1.1,[]) F0.n (by omega) u j (bF _) (fun d c=>by cases c) (by rw[bz];omega) (by omega)
end Go.Am.Tryz
