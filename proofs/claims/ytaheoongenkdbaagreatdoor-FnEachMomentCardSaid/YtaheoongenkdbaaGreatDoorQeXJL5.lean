/- No condition. -/
import Derived.Test.YtaheoongenkdbaaGreatDoorQeXJL4
set_option linter.all false
namespace Go.Am.Tryz
open Go.Am
def aIo (r:ar)(p:b1):Bool:= !dd p.2.1&& !decide (p.1<r.2.1)
def fE (c:Int×Int)(r:ar)(p:b1):ar×Bool :=
 if aIo r p=true/\(bs c r.2.2.2.2.2.1 p).2=true then ((ez c (dZ r (bs c r.2.2.2.2.2.1 p).1) p.1 p.2.1 false).1,true) else (r,false)
def aX.aDo {c:Int×Int}{r:ar}(h:aX c r)(p:b1):aX c (fE c r p).1:=by
 unfold fE;split
 .exact(h.dZ (ow h.f.t _)).avr _ _ _
 .exact h
def aE8 {c:Int×Int}{p:b1}(h:hX c p=true):tK p:=⟨(Fk h).1,by have:=(Fk h).2;omega⟩
def avv {c:Int×Int}{r:ar}(h:aX c r){p:b1}(a:hX c p=true):Dm F0 c r p=some ((fE c r p).1,(fE c r p).2,()):=by
 have e:=IG (vx h.f.t) (Fk a) c;have b:=h.dZ (ow h.f.t p);have f:a7 F0 (r.1,r.2.1,r.2.2.1,r.2.2.2.1,r.2.2.2.2.1,(bs c r.2.2.2.2.2.1 p).1,r.2.2.2.2.2.2)=some (dZ r (bs c r.2.2.2.2.2.1 p).1,()):=dM b.bt;obtain⟨x,g,i⟩:=RL b p.1 (Fk a).1 false;rw[afw,dM h.bt,ai,gR h.l,ai,h.ok,aH,aa,Rv (aE8 a),ai,a,aH,aa];simp only[ai,e,f,g];unfold fE aIo dd;cases (p.2.1.toList==ak.toList)<;>cases decide (p.1<r.2.1)
 .cases j:(bs c r.2.2.2.2.2.1 p).2 with
  |false=>rfl
  |true =>
   rw[ag ⟨rfl,rfl⟩];cases d:(ez c (dZ r (bs c r.2.2.2.2.2.1 p).1) p.1 p.2.1 false).2 with
   |true=>rw[i d];rfl|false=>rw[axM d];rfl
 .rfl
 .rfl
 .rfl
def arh {c:Int×Int}{r:ar}(h:aX c r){p:b1}(a:hX c p=true):DW F0 c r p=some ((fE c r p).1,(fE c r p).2,()):=by
 have b:=Ei (vx h.f.t) (Fk a) c;have d:=h.dZ (ow h.f.t p);have e:ni F0 c (r.1,r.2.1,r.2.2.1,r.2.2.2.1,r.2.2.2.2.1,(bs c r.2.2.2.2.2.1 p).1,r.2.2.2.2.2.2) p.1 p.2.1 false=some ((ez c (dZ r (bs c r.2.2.2.2.2.1 p).1) p.1 p.2.1 false).1,(ez c (dZ r (bs c r.2.2.2.2.2.1 p).1) p.1 p.2.1 false).2,()):=abp d p.1 (Fk a).1 false;rw[agb,dJ h.l,ai,h.ok,aH,aa,Nl (aE8 a),ai,a,aH,aa,dN h.bt];simp only[ai,b,e];unfold fE aIo dd;cases (p.2.1.toList==ak.toList)<;>cases decide (p.1<r.2.1)
 .cases f:(bs c r.2.2.2.2.2.1 p).2<;>rfl
 .rfl
 .rfl
 .rfl
def avw (q:b1):Int:=Gc 60 (aj (q.1+1))
def sZ (c:Int×Int)(r:ar)(view:Int):Bool:=decide (bY c view=r.1)&&decide (view>=r.2.1)
def Fl (l:Bool)(o:ar)(view:Int)(q:b1):ar:=if l=true then q4 (q4 o (avw q)) view else q4 o (avw q)
def oD (imp:Bool)(c:Int×Int)(r:ar)(view:Int)(q:b1)(cu:Int)(o:ar):ar×Bool :=
 if sZ c r view=true then
  if (bs c o.2.2.2.2.2.1 (one view ak cu)).2=true then
   (Fl (NB c (bs c o.2.2.2.2.2.1 (one view ak cu)).1 view) (dZ o (bs c o.2.2.2.2.2.1 (one view ak cu)).1) view q,true)
  else (r,false)
 else (Fl (imp&&NB c o.2.2.2.2.2.1 view) o view q,true)
def fF (imp:Bool)(c:Int×Int)(r:ar)(view:Int)(q:b1)(cu:Int):ar×Bool:=if (written c r q).2=true then oD imp c r view q cu (written c r q).1 else (r,false)
def Xy {imp:Bool}{c:Int×Int}{r:ar}{view:Int}{q:b1}{cu:Int}{o:ar}(h:sZ c r view=false):oD imp c r view q cu o=(Fl (imp&&NB c o.2.2.2.2.2.1 view) o view q,true):=af (by rw[h];decide)
def apg {imp:Bool}{c:Int×Int}{r:ar}{view:Int}{q:b1}{cu:Int}{o:ar}(h:sZ c r view=true)(a:(bs c o.2.2.2.2.2.1 (one view ak cu)).2=false):oD imp c r view q cu o=(r,false):=by unfold oD;rw[ag h,af (by rw[a];decide)]
def aph {imp:Bool}{c:Int×Int}{r:ar}{view:Int}{q:b1}{cu:Int}{o:ar}(h:sZ c r view=true)(a:(bs c o.2.2.2.2.2.1 (one view ak cu)).2=true) :
  oD imp c r view q cu o=(Fl (NB c (bs c o.2.2.2.2.2.1 (one view ak cu)).1 view) (dZ o (bs c o.2.2.2.2.2.1 (one view ak cu)).1) view q,true):=by
 unfold oD;rw[ag h,ag a]
def ak3 (x:Int):Gc 60 x<=60:=by unfold Gc;split<;>omega
def Xz (x:Int):Gc x 60=Gc 60 x:=by unfold Gc;split<;>split<;>omega
def aDp (a b c:Int):pw (pw a b) c=pw (pw a c) b:=by
 unfold pw
 repeat' split
 all_goals omega
def aX.Fl {c:Int×Int}{o:ar}(h:aX c o)(l:Bool){view:Int}(a:view<=60)(q:b1):aX c (Fl l o view q):=by
 unfold Tryz.Fl;split
 .exact(h.raised (ak3 _)).raised a
 .exact h.raised (ak3 _)
def aX.oD {c:Int×Int}{r o:ar}(h:aX c r)(a:aX c o)(imp:Bool){view:Int}(b:view<=60)(q:b1)(cu:Int):aX c (oD imp c r view q cu o).1:=by
 unfold Tryz.oD;split
 .split
  .exact(a.dZ (ow a.f.t _)).Fl _ b q
  .exact h
 .exact a.Fl _ b q
def aX.aDq {c:Int×Int}{r:ar}(h:aX c r)(imp:Bool){view:Int}(a:view<=60)(q:b1)(cu:Int):aX c (fF imp c r view q cu).1:=by
 unfold fF;split
 .exact h.oD (h.w q) imp a q cu
 .exact h
def avx {c:Int×Int}{r:ar}(h:aX c r){view:Int}(m:eF 1 60 view=true){q:b1}(e:eN c q=true){cu:Int}(n:eF 0 (aj (c.1-1)) cu=true) :
  Dn F0 c r view q cu=some ((fF false c r view q cu).1,(fF false c r view q cu).2,()):=by
 have i:=Oa e;have d:aX c (written c r q).1:=h.w q;rw[afy,dM h.bt,ai,gR h.l,ai,h.ok,aH,aa,cO,ai,m,aH,aa,Ru i,ai,e,aH,aa,cO,ai,n,aH,aa,avg h.l.s i];simp only[ai];rw[RJ h (ao8 h q),ai];unfold fF;unfold written at d ⊢;generalize fD c r (Nw c r.2.2.2.1 q)=W at d ⊢;obtain⟨a,o⟩:=W;dsimp only at d ⊢;cases o with
 |false=>rfl
 |true =>
  have p:eW F0 c a.2.2.2.2.2.1 (view,ak,[cu])=some ((bs c a.2.2.2.2.2.1 (one view ak cu)).1,(bs c a.2.2.2.2.2.1 (one view ak cu)).2,()):=IG (vx d.f.t) ⟨aO _,by show 1<=1000;omega⟩ c;have j:=ow d.f.t (one view ak cu);have s:=RF (l:=(bs c a.2.2.2.2.2.1 (one view ak cu)).1) (bZ (vx j).1 (by omega)) (fun q e=>(vx j).l e) view ak;show _=some ((oD false c r view q cu a).1,(oD false c r view q cu a).2,());rw[ag rfl];simp only[ai,KR,p,s,aa5,CE,Xv,ae];by_cases f:bY c view=r.1
  .rw[bg.2 f,ae];by_cases g:view>=r.2.1
   .have b:sZ c r view=true:=by unfold sZ;rw[aI f,aI g];rfl
    rw[aI g,ae];cases k:(bs c a.2.2.2.2.2.1 (one view ak cu)).2 with
    |false=>rw[apg b k];rfl
    |true =>
     rw[aph b k,aH,aa];unfold NB;cases t:decide (((df (bs c a.2.2.2.2.2.1 (one view ak cu)).1 view ak).2.2.length:Int)>=A5 c) with
     |false=>rw[aa,Xz];rfl|true=>rw[ae,Xz,aDp];rfl
   .have b:sZ c r view=false:=by unfold sZ;rw[aL g,abF]
    rw[Xy b,aL g,aa,Xz];rfl
  .have b:sZ c r view=false:=by unfold sZ;rw[aL f,Yg]
   rw[Xy b,bQ.2 f,aa,Xz];rfl
def ari {c:Int×Int}{r:ar}(h:aX c r){view:Int}(l:eF 1 60 view=true){q:b1}(g:eN c q=true){cu:Int}(m:eF 0 (aj (c.1-1)) cu=true) :
  DX F0 c r view q cu=some ((fF true c r view q cu).1,(fF true c r view q cu).2,()):=by
 have i:=Oa g;have b:aX c (written c r q).1:=h.w q;rw[agd,dJ h.l,ai,h.ok,aH,aa,bP,ai,l,aH,aa,Qp i,ai,g,aH,aa,bP,ai,m,aH,aa,aoZ h.l.s i,dN h.bt];simp only[ai];rw[abn h (ao8 h q),ai];unfold fF;unfold written at b ⊢;generalize fD c r (Nw c r.2.2.2.1 q)=W at b ⊢;obtain⟨a,n⟩:=W;dsimp only at b ⊢;cases n with
 |false=>rfl
 |true =>
  have o:eu F0 c a.2.2.2.2.2.1 (view,ak,[cu])=some ((bs c a.2.2.2.2.2.1 (one view ak cu)).1,(bs c a.2.2.2.2.2.1 (one view ak cu)).2,()):=Ei (vx b.f.t) ⟨aO _,by show 1<=1000;omega⟩ c;have p:=ow b.f.t (one view ak cu);have s:(if 60<aj (q.1+1) then 60 else aj (q.1+1))=avw q:=rfl;have t:sn F0 c (a.1,(if avw q>a.2.1 then avw q else a.2.1,(a.2.2.1,a.2.2.2.1,a.2.2.2.2.1,(bs c a.2.2.2.2.2.1 (one view ak cu)).1,a.2.2.2.2.2.2))) view=some (NB c (bs c a.2.2.2.2.2.1 (one view ak cu)).1 view,()) :=
   apb (r:=q4 (dZ a (bs c a.2.2.2.2.2.1 (one view ak cu)).1) (avw q)) ((b.dZ p).raised (ak3 _)).l view
  have u:sn F0 c (a.1,(if avw q>a.2.1 then avw q else a.2.1,a.2.2)) view=some (NB c a.2.2.2.2.2.1 view,()):=apb (r:=q4 a (avw q)) (b.raised (ak3 _)).l view;show _=some ((oD true c r view q cu a).1,(oD true c r view q cu a).2,());rw[aH,aa,s];simp only[ai,IY,o,t,u];by_cases e:bY c view=r.1
  .rw[bg.2 e,ae];by_cases f:view>=r.2.1
   .have d:sZ c r view=true:=by unfold sZ;rw[aI e,aI f];rfl
    rw[aI f,ae];cases j:(bs c a.2.2.2.2.2.1 (one view ak cu)).2 with
    |false=>rw[apg d j];rfl
    |true =>
     rw[aph d j,aH,aa];cases k:NB c (bs c a.2.2.2.2.2.1 (one view ak cu)).1 view<;>rfl
   .have d:sZ c r view=false:=by unfold sZ;rw[aL f,abF]
    rw[Xy d,aL f,aa,eS];cases k:NB c a.2.2.2.2.2.1 view<;>rfl
  .have d:sZ c r view=false:=by unfold sZ;rw[aL e,Yg]
   rw[Xy d,bQ.2 e,aa,eS];cases k:NB c a.2.2.2.2.2.1 view<;>rfl
def ND (r:ar)(p:List ej):ar:=(r.1,r.2.1,r.2.2.1,r.2.2.2.1,p,r.2.2.2.2.2)
def WO (r:ar)(x:ej):ar×Bool:=(ND r (k3 r.2.2.2.2.1 x).1,(k3 r.2.2.2.2.1 x).2)
def aX.ND {c:Int×Int}{r:ar}(h:aX c r){p:List ej}(a:eP p=true):aX c (ND r p) :=
 ⟨⟨h.f.cf,h.f.i,h.f.v,h.f.a,h.f.s,a,h.f.t,h.f.d,h.f.n,h.f.h⟩,h.b⟩
def aX.aG0 {c:Int×Int}{r:ar}(h:aX c r)(x:ej):aX c (WO r x).1:=h.ND (az2 h.f.p x)
def az6 {l:List ej}{x:ej}(h:(k3 l x).2=false):(k3 l x).1=l:=by
 unfold k3 at h ⊢;cases a:eP (Ej x l) with
 |true=>rw[a,ag rfl]at h;cases h|false=>rfl
def az7 {c:Int×Int}{r:ar}(h:aX c r)(x:ej):L8 F0 c r x=some ((WO r x).1,(WO r x).2,()):=by
 have b:=(abm h.f.p).1;rw[amZ,dM h.bt,ai,gR h.l,ai,h.ok,aH,aa,axC (by omega),ai];unfold WO;cases a:(k3 r.2.2.2.2.1 x).2 with
 |true=>rfl|false=>rw[az6 a];rfl
def axP {c:Int×Int}{r:ar}(h:aX c r)(x:ej):M3 F0 c r x=some ((WO r x).1,(WO r x).2,()):=by have a:=(abm h.f.p).1;rw[anV,dN h.bt,ai,dJ h.l,ai,h.ok,aH,aa,avl (by omega),ai];rfl
def q5 (imp:Bool)(c:Int×Int)(r:ar)(m:bW):ar×Bool :=
 if m.1=1 then dV c r m.2.2.1 else if m.1=2 then fE c r m.2.2.2.1 else if m.1=3 then fF imp c r m.2.1 m.2.2.2.2.1 m.2.2.2.2.2.1 else WO r m.2.2.2.2.2.2
def Qx (r:ar):ar:=dZ r (aej r.2.2.2.2.2.1 (aj (r.2.1-1)))
def finish (c:Int×Int)(r:ar):ar:=ND (Qx r) (ao4 r.2.2.2.2.1 (vw c (Qx r)))
def CG (imp:Bool)(c:Int×Int)(r:ar)(m:bW):ar×Bool:=if cV c m=true/\(q5 imp c r m).2=true then (finish c (q5 imp c r m).1,true) else (r,false)
def aX.Qx {c:Int×Int}{r:ar}(h:aX c r):aX c (Qx r):=h.dZ (ape h.f.t _)
def aX.finish {c:Int×Int}{r:ar}(h:aX c r):aX c (finish c r):=h.Qx.ND (arf h.f.p _)
def aet (c:Int×Int)(r:ar):(vw c r).1.length<=4/\(vw c r).2.length<=4:=by
 unfold vw;split
 .have:=Xn abc (xs:=aoL r.2.2.2.1.2.2.2);exact⟨Nat.le_of_eq this.1,Nat.le_of_eq this.2⟩
 .exact⟨aO _,aO _⟩
structure aKf (c:Int×Int) (m:bW):Prop where
 k:m.1=1\/m.1=2\/m.1=3\/m.1=4
 b:m.1=1->fj c m.2.2.1=true
 p:m.1=2->hX c m.2.2.2.1=true/\dd m.2.2.2.1.2.1=false
 v:m.1=3->eF 1 60 m.2.1=true/\eN c m.2.2.2.2.1=true/\eF 0 (aj (c.1-1)) m.2.2.2.2.2.1=true
 t:m.1=4->gm m.2.2.2.2.2.2=true
 s:named m=m
def aeu {c:Int×Int}{m:bW}(h:cV c m=true):aKf c m:=by
 unfold cV at h;simp only[aA]at h;obtain⟨i,g,a⟩:=h;have d:=abf g;by_cases b:m.1=1
 .rw[ag (by simpa using b)]at a;exact⟨.inl b,fun _=>a,fun h=>by omega,fun h=>by omega,fun h=>by omega,d⟩
 .by_cases e:m.1=2
  .rw[af (by simpa using b),ag (by simpa using e)]at a;simp only[aA,Yc]at a;exact⟨.inr (.inl e),fun h=>by omega,fun _=>a,fun h=>by omega,fun h=>by omega,d⟩
  .by_cases f:m.1=3
   .rw[af (by simpa using b),af (by simpa using e),ag (by simpa using f)]at a;simp only[aA]at a;exact⟨.inr (.inr (.inl f)),fun h=>by omega,fun h=>by omega,fun _=>a,fun h=>by omega,d⟩
   .rw[af (by simpa using b),af (by simpa using e),af (by simpa using f)]at a;simp only[aA,bg]at a;exact⟨.inr (.inr (.inr a.1)),fun h=>by omega,fun h=>by omega,fun h=>by omega,fun _=>a.2,d⟩
def aX.az8 {c:Int×Int}{r:ar}(h:aX c r)(imp:Bool){m:bW}(a:cV c m=true):aX c (q5 imp c r m).1:=by
 have b:=aeu a;unfold q5;split
 .exact h.apf _
 .split
  .exact h.aDo _
  .split
   .rename_i d;have:=(b.v d).1;simp only[eF,aA,bR]at this;exact h.aDq imp this.2 _ _
   .exact h.aG0 _
def aX.heard {c:Int×Int}{r:ar}(h:aX c r)(imp:Bool)(m:bW):aX c (CG imp c r m).1:=by
 unfold CG;split
 .rename_i a;exact(h.az8 imp a.1).finish
 .exact h
def axQ {c:Int×Int}{r:ar}(h:aX c r){m:bW}(b:cV c m=true):HT F0 c r m=some ((q5 false c r m).1,(q5 false c r m).2,()):=by
 have a:=aeu b;rw[ajG];unfold q5;rcases a.k with k|k|k|k
 .rw[bg.2 k,ae,ag k,ZZ h (a.b k),ai]
 .rw[bQ.2 (show m.1≠1 by omega),aa,bg.2 k,ae,af (by omega),ag k,avv h (a.p k).1,ai]
 .rw[bQ.2 (show m.1≠1 by omega),aa,bQ.2 (show m.1≠2 by omega),aa,bg.2 k,ae,af (by omega),af (by omega),ag k,avx h (a.v k).1 (a.v k).2.1 (a.v k).2.2,ai]
 .rw[bQ.2 (show m.1≠1 by omega),aa,bQ.2 (show m.1≠2 by omega),aa,bQ.2 (show m.1≠3 by omega),aa,af (by omega),af (by omega),af (by omega),az7 h,ai]
def axR {c:Int×Int}{r:ar}(h:aX c r){m:bW}(e:fT m):Pf F0 c r m=some ((CG false c r m).1,(CG false c r m).2,()):=by
 rw[at7,gR h.l,ai,h.ok,aH,aa,I1 e,ai,dM h.bt,ai];unfold CG;cases d:cV c m with
 |false=>rfl
 |true =>
  rw[axQ h d,ai];have b:=h.az8 false d;generalize q5 false c r m=X at b ⊢;obtain⟨a,ok⟩:=X;dsimp only at b ⊢;cases ok with
  |false=>rfl
  |true =>
   have f:J0 F0 c (a.1,a.2.1,a.2.2.1,a.2.2.2.1,a.2.2.2.2.1,aej a.2.2.2.2.2.1 (aj (a.2.1-1)),a.2.2.2.2.2.2)=some (vw c (Qx a),()):=aC4 b.Qx.l c;have i:=aet c (Qx a);have g:=avn (p:=a.2.2.2.2.1) b.l.p (l:=vw c (Qx a)) (by omega) (by omega);rw[aq9 b.l.t b.l.tq,ai,f,ai,g,ai];rfl
def asw {c:Int×Int}{r:ar}(h:aX c r){m:bW}(i:fT m):IV F0 c r m=some ((CG true c r m).1,(CG true c r m).2,()):=by
 rw[auA,KV i,ai,dN h.bt,ai];unfold CG;cases f:cV c m with
 |false=>rfl
 |true =>
  have d:=aeu f;have tail:∀a:ar,aX c a->∀ok:Bool,br (!ok) (some (r,false,())) ((gE F0 a.2.2.2.2.2.1 (aj (a.2.1-1))).bind fun g=>(nm F0 c (a.1,a.2.1,a.2.2.1,a.2.2.2.1,a.2.2.2.2.1,g.1,a.2.2.2.2.2.2)).bind fun j=>(iH F0 a.2.2.2.2.1 j.1).bind fun n=>some ((a.1,a.2.1,a.2.2.1,a.2.2.2.1,n.1,g.1,a.2.2.2.2.2.2),true,())) =
    some ((if true=true/\ok=true then (finish c a,true) else (r,false)).1,(if true=true/\ok=true then (finish c a,true) else (r,false)).2,()):=fun a b ok=>by
   cases ok with
   |false=>rfl
   |true =>
    have o:nm F0 c (a.1,a.2.1,a.2.2.1,a.2.2.2.1,a.2.2.2.2.1,aej a.2.2.2.2.2.1 (aj (a.2.1-1)),a.2.2.2.2.2.2)=some (vw c (Qx a),()):=azK b.Qx.l c;have s:=aet c (Qx a);have q:=arb (p:=a.2.2.2.2.1) b.l.p (l:=vw c (Qx a)) (by omega) (by omega);rw[ao2 b.l.t b.l.tq,ai,o,ai,q,ai];rfl
  have b:=h.az8 true f;rw[aH,aa];rcases d.k with k|k|k|k
  .have e:q5 true c r m=dV c r m.2.2.1:=ag k;rw[e]at b ⊢;rw[bg.2 k,ae,WN h (d.b k),ai];exact tail _ b _
  .have e:q5 true c r m=fE c r m.2.2.2.1:=by unfold q5;rw[af (by omega),ag k]
   rw[e]at b ⊢;rw[bQ.2 (show m.1≠1 by omega),aa,bg.2 k,ae,arh h (d.p k).1,ai];exact tail _ b _
  .have e:q5 true c r m=fF true c r m.2.1 m.2.2.2.2.1 m.2.2.2.2.2.1:=by unfold q5;rw[af (by omega),af (by omega),ag k]
   rw[e]at b ⊢;rw[bQ.2 (show m.1≠1 by omega),aa,bQ.2 (show m.1≠2 by omega),aa,bg.2 k,ae,ari h (d.v k).1 (d.v k).2.1 (d.v k).2.2,ai];exact tail _ b _
  .have e:q5 true c r m=WO r m.2.2.2.2.2.2:=by unfold q5;rw[af (by omega),af (by omega),af (by omega)]
   rw[e]at b ⊢;rw[bQ.2 (show m.1≠1 by omega),aa,bQ.2 (show m.1≠2 by omega),aa,bQ.2 (show m.1≠3 by omega),aa,axP h,ai];exact tail _ b _
def Fm (w:ah):(aM w).length<=w.2.2.1.length:=q2 _ _
def XA {U ζ γ:Type}(X:Nat->Int->ζ->Option γ)(a:List U)(f:ζ->U->ζ)(I:ζ->Prop)(R:Option γ)(b:ζ)(d:I b)(e:∀z x,x∈a->I z->I (f z x))
  (hs:∀n k z (h:k<a.length),I z->X (n+1) (k:Int) z=X n ((k+1:Nat):Int) (f z a[k])) (g:∀n,X (n+1) (a.length:Int) (a.foldl f b)=R) (n:Nat) (i:a.length<n):X n 0 b=R:=by
 refine cz X a.length (fun k z=>z=(a.take k).foldl f b/\I z) R (fun n k z c h=>.inr ⟨_,hs n k z c h.2,?_,e _ _ (b2 c) h.2⟩) (fun n z h=>?_) n 0 b (aO _) ⟨rfl,d⟩ (by omega)
 .rw[iw c,List.foldl_append,h.1];rfl
 .rw[h.1,k5];exact g n
def isSaid (view:Int)(name:ByteArray)(cu:Int)(y:cv):Bool:=(y.1==view)&&((y.2.1.toList==name.toList)&&(y.2.2==cu))
def jF (l:List cv)(view:Int)(name:ByteArray)(cu:Int):Bool:=l.any (isSaid view name cu)
def axS {U:Type}{p:U->Bool}{l:List U}{k:Nat}(a:k<l.length):(l.drop k).any p=(p l[k] || (l.drop (k+1)).any p):=by rw[TX a,List.any_cons]
def api {l:List cv}(h:l.length<=1048576)(view:Int)(name:ByteArray)(cu:Int):EL F0 l view name cu=some (jF l view name cu,()):=by
 rw[am3];refine cz (fun n k (z:Unit)=>oh F0 (uN F0) n (jS l view name cu k)) l.length (fun k _=>jF l view name cu=(l.drop k).any (isSaid view name cu)) _ (fun n k z b a=>?_) (fun n z a=>?_) F0.n 0 () (aO _) rfl (by rw[bH];omega)
 .rw[axS b]at a;rw[J2,aP b,ae,ao b,ad,ad,ad,a8 b,afC,al (by omega),a];unfold isSaid;cases c:(l[k].1==view) with
  |false=>exact .inr ⟨(),aa _ _,rfl⟩
  |true =>
   cases d:(l[k].2.1.toList==name.toList) with
   |false=>exact .inr ⟨(),by rw[ae,aa],rfl⟩
   |true =>
    cases e:(l[k].2.2==cu) with
    |false=>exact .inr ⟨(),by rw[ae,ae,aa],rfl⟩
    |true=>exact .inl rfl
 .rw[Yf]at a;rw[J2,aE,aa,acO,a];rfl
def aG1 {l:List cv}(h:l.length<=1048576)(x:cv):∃r,Xf F0 l x=some (r,())/\decide (r>=0)=jF l x.1 x.2.1 x.2.2:=by
 rw[aun];have key:∀(a k n:Nat),k+a=l.length->a<n->∃r,MK F0 (DQ F0) n (DP l (l.length:Int) (k:Int) x.1 x.2.1 x.2.2)=some (r,())/\decide (r>=0)=(l.drop k).any (isSaid x.1 x.2.1 x.2.2):=by
  intro a
  induction a with
  |zero =>
   intro k n b c;obtain⟨n,rfl⟩:∃m,n=m+1:=⟨n-1,by omega⟩;obtain rfl:k=l.length:=by omega
   rw[PJ,aE,aa,ake,Yf];exact⟨-1,rfl,rfl⟩
  |succ a d =>
   intro k n b c;obtain⟨n,rfl⟩:∃m,n=m+1:=⟨n-1,by omega⟩;have hk':k<l.length:=by omega
   have e:((x.1==l[k].1)&&((x.2.1.toList==l[k].2.1.toList)&&((x.2.2==l[k].2.2)&&true)))=isSaid x.1 x.2.1 x.2.2 l[k]:=by unfold isSaid;rw[Bool.and_true,show(x.1==l[k].1)=(l[k].1==x.1) from sQ,show(x.2.1.toList==l[k].2.1.toList)=(l[k].2.1.toList==x.2.1.toList) from sQ,show(x.2.2==l[k].2.2)=(l[k].2.2==x.2.2) from sQ]
   rw[PJ,aP hk',ae,ao hk',ad,a8 hk',e,anJ,al (by omega),axS hk'];cases f:isSaid x.1 x.2.1 x.2.2 l[k]with
   |true=>exact⟨(k:Int),ae _ _,by rw[aI (show(k:Int)>=0 by omega)];rfl⟩
   |false =>
    rw[aa,wc];exact d (k+1) n (by omega) (by omega)
 exact key l.length 0 F0.n (by omega) (by rw[bH];omega)
def CH {l:List cv}(h:l.length<=1048576)(x:cv):cX F0 l x=some (jF l x.1 x.2.1 x.2.2,()):=by obtain⟨r,a,b⟩:=aG1 h x;rw[F4,a,ai,b]
def Qy (liars:List Int)(l:List cv)(view:Int)(name:ByteArray)(i:Int):Bool:=decide (i∈liars) || jF l view name i
def signed (liars:List Int)(l:List cv)(view:Int)(name:ByteArray)(cu:List Int):Bool:=cu.all (Qy liars l view name)
def abr {liars:List Int}(c:liars.length<=1048576){l:List cv}(b:l.length<=1048576)(view:Int)(name:ByteArray){cu:List Int}(d:cu.length<=1048576):wH F0 liars l view name cu=some (signed liars l view name cu,()):=by
 rw[am4,hU (fun m k=>ti F0 (uO F0) m (nL liars l view name cu k)) cu.length (fun k=>Qy liars l view name (cu.getD k 0)) (some (true,())) (some (false,())) (fun m k a=>?_) (fun m=>?_) _ (by rw[bH];omega),KP,Fh]
 .rfl
 .rw[J3,aP a,ae,ao a,ad,ad,a8 a,fg (by omega),ai,api b,ai,afD,al (by omega),aV a];unfold Qy;cases decide (cu[k]∈liars)<;>cases jF l view name cu[k]<;>rfl
 .rw[J3,aE,aa,acP]
def WQ {liars:List Int}(c:liars.length<=1048576){l:List cv}(b:l.length<=1048576)(view:Int)(name:ByteArray){cu:List Int}(d:cu.length<=1048576):wO F0 liars l view name cu=some (signed liars l view name cu,()):=by
 rw[anZ,hU (fun m k=>tE F0 (vj F0) m (nV liars l view name cu (cu.length:Int) k)) cu.length (fun k=>Qy liars l view name (cu.getD k 0)) (some (true,())) (some (false,())) (fun m k a=>?_) (fun m=>?_) _ (by rw[bH];omega),KP,Fh]
 .rfl
 .rw[KG,aP a,ae,ao a,ad,a8 a,eM (by omega),ai,CH b,ai,agl,al (by omega),aV a];unfold Qy;cases decide (cu[k]∈liars)<;>cases jF l view name cu[k]<;>rfl
 .rw[KG,aE,aa,adB]
def IH (liars:List Int)(l:List cv)(q:b1):Bool:=signed liars l q.1 q.2.1 q.2.2
def Ge (c:Int×Int)(liars:List Int)(l:List cv)(m:bW):Bool :=
 cV c m&&(if m.1=1 then decide (bY c (aD m.2.2.1.1.data.toList)∈liars)&&IH liars l m.2.2.1.2 else if m.1=2 then IH liars l m.2.2.2.1 else if m.1=3 then decide (m.2.2.2.2.2.1∈liars)&&IH liars l m.2.2.2.2.1 else true)
def az9 {c:Int×Int}{liars:List Int}(f:liars.length<=1048576){l:List cv}(g:l.length<=1048576){m:bW}(a:fT m):Ma F0 c liars l m=some (Ge c liars l m,()):=by
 rw[am6,I1 a,ai,ot a.1,ai,KR,ai,fg (by omega),ai,abr f g _ _ a.2.1.2,ai,abr f g _ _ a.2.2.1.2,ai,fg (by omega),ai,abr f g _ _ a.2.2.2.2,ai];unfold Ge;cases cV c m with
 |false=>rfl
 |true =>
  rw[aH,aa,eS];by_cases b:m.1=1
  .rw[bg.2 b,ae,ag b];dsimp only;cases decide (bY c (aD m.2.2.1.1.data.toList)∈liars)<;>rfl
  .rw[bQ.2 b,aa,af b];by_cases d:m.1=2
   .rw[bg.2 d,ae,ag d];rfl
   .rw[bQ.2 d,aa,af d];by_cases e:m.1=3
    .rw[bg.2 e,ae,ag e];dsimp only;cases decide (m.2.2.2.2.2.1∈liars)<;>rfl
    .rw[bQ.2 e,aa,af e]
def avy:rR F0=some (b8,()):=by rw[S0];rfl
def aev {liars:List Int}{l:List cv}{q:b1}{U:Type}(f:Bool->U):br (fS q b8) (some (f true)) (some (f (IH liars l q)))=some (f (IH liars l q)):=by
 cases h:fS q b8 with
 |false=>rfl
 |true =>
  have:=Qt h;subst this;rfl
def axT {c:Int×Int}{liars:List Int}(d:liars.length<=1048576){l:List cv}(e:l.length<=1048576){m:bW}(a:fT m):M9 F0 c liars l m=some (Ge c liars l m,()):=by
 rw[an1,KV a,ai,qV a.1,ai,IY,ai,eM (by omega),ai,avy,ai,KU a.2.1,ai,WQ d e _ _ a.2.1.2,ai,WQ d e _ _ a.2.2.1.2,ai,eM (by omega),ai,ai,KU a.2.2.2,ai,WQ d e _ _ a.2.2.2.2,ai];dsimp only;have f1:=aev (liars:=liars) (l:=l) (q:=m.2.2.1.2) (fun b=>(b,()));have f2:=aev (liars:=liars) (l:=l) (q:=m.2.2.2.2.1) (fun b=>(b,()));unfold IH at f1 f2;rw[f1,f2];unfold Ge;cases cW:cV c m with
 |false=>rfl
 |true =>
  rw[aH,aa,eS];rcases(aeu cW).k with k|k|k|k
  .rw[bQ.2 (show m.1≠4 by omega),aa,bQ.2 (show m.1≠2 by omega),aa,bg.2 k,ae,ag k];unfold IH;cases decide (bY c (aD m.2.2.1.1.data.toList)∈liars)<;>rfl
  .rw[bQ.2 (show m.1≠4 by omega),aa,bg.2 k,ae,af (by omega),ag k];rfl
  .rw[bQ.2 (show m.1≠4 by omega),aa,bQ.2 (show m.1≠2 by omega),aa,bQ.2 (show m.1≠1 by omega),aa,af (by omega),af (by omega),ag k];unfold IH;cases decide (m.2.2.2.2.2.1∈liars)<;>rfl
  .rw[bg.2 k,ae,af (by omega),af (by omega),af (by omega)]
def TH (id:Int)(q:b1):List cv:=if dd q.2.1=true then [] else if id∈q.2.2 then [(q.1,q.2.1,id)] else []
def cD (id:Int)(m:bW):List cv:=if m.1=4 then [] else if m.1=2 then TH id m.2.2.2.1 else if m.1=1 then TH id m.2.2.1.2 else TH id m.2.2.2.2.1
def Qz (id:Int)(q:b1):br (q.2.1.toList==ak.toList) (some (([]:List cv),())) (br (!decide (id∈q.2.2)) (some ([],())) (some ([(q.1,q.2.1,id)],())))=some (TH id q,()):=by
 unfold TH dd;cases (q.2.1.toList==ak.toList) with
 |true=>rfl
 |false =>
  by_cases h:id∈q.2.2
  .rw[aI h,af (by decide),ag h];rfl
  .rw[aL h,af (by decide),af h];rfl
def aAa {m:bW}(d:fT m)(id:Int):Mh F0 id m=some (cD id m,()):=by
 rw[ane,fg (bZ d.2.2.1.2 (by omega)),ai,fg (bZ d.2.1.2 (by omega)),ai,fg (bZ d.2.2.2.2 (by omega)),ai];dsimp only;rw[Qz id m.2.2.2.1,Qz id m.2.2.1.2,Qz id m.2.2.2.2.1];unfold cD;by_cases a:m.1=4
 .rw[ag a,bQ.2 (show m.1≠2 by omega),aa,bQ.2 (show m.1≠1 by omega),aa,bg.2 a,ae]
 .rw[af a,bQ.2 a,aa,aa,aa];by_cases b:m.1=2
  .rw[ag b,bg.2 b,ae]
  .rw[af b,bQ.2 b,aa];by_cases c:m.1=1
   .rw[ag c,bg.2 c,ae]
   .rw[af c,bQ.2 c,aa]
def aiE {m:bW}(d:fT m)(id:Int):EY F0 id m=some (cD id m,()):=by
 rw[anI,eM (bZ d.2.2.1.2 (by omega)),ai,eM (bZ d.2.1.2 (by omega)),ai,eM (bZ d.2.2.2.2 (by omega)),ai];dsimp only;rw[Qz id m.2.2.2.1,Qz id m.2.2.1.2,Qz id m.2.2.2.2.1];unfold cD;by_cases a:m.1=4
 .rw[ag a,bg.2 a,ae]
 .rw[af a,bQ.2 a,aa];by_cases b:m.1=2
  .rw[ag b,bg.2 b,ae]
  .rw[af b,bQ.2 b,aa];by_cases c:m.1=1
   .rw[ag c,bg.2 c,ae]
   .rw[af c,bQ.2 c,aa]
def abt (id:Int)(m:bW):(cD id m).length<=1:=by
 have a:∀q:b1,(TH id q).length<=1:=fun q=>by
  unfold TH;split
  .exact aO _
  .split
   .exact bf _
   .exact aO _
 unfold cD;split
 .exact aO _
 .split
  .exact a _
  .split
   .exact a _
   .exact a _
def s4 (l:List cv)(x:cv):List cv:=if l.length<300/\jF l x.1 x.2.1 x.2.2=false then l++[x] else l
def avz (id:Int)(l:List cv)(p:gQ):List cv:=(cD id p.2).foldl s4 l
def RN (id:Int)(list:List gQ)(l:List cv):List cv:=list.foldl (avz id) l
def mj (w:ah)(id:Int)(list:List gQ):ah:=if id∈aM w then (w.1,w.2.1,w.2.2.1,w.2.2.2.1,RN id list w.2.2.2.2) else w
def abu {l:List cv}(h:l.length<=300)(x:cv):(s4 l x).length<=300:=by
 unfold s4;split
 .rename_i a;rw[aG,dt];omega
 .exact h
def aew:∀{xs:List cv} {l:List cv},l.length<=300->(xs.foldl s4 l).length<=300
 |[],_,h=>h|x::xs,l,h=>aew (xs:=xs) (abu h x)
def aiF (id:Int):∀{list:List gQ} {l:List cv},l.length<=300->(RN id list l).length<=300
 |[],_,h=>h|p::list,l,h=>aiF id (list:=list) (aew h)
def aDr {w:ah}(h:N9 w)(hs:w.2.2.2.2.length<=300)(id:Int){list:List gQ}(l:list.length<=1048576)(j:∀p∈list,fT p.2):J6 F0 w id list=some (mj w id list,()):=by
 rw[aqy,aiz h,ai,aoG h.l,ai,fg (by have:=Fm w;have:=h.l.r;dsimp only;omega),ai];unfold mj;by_cases b:id∈aM w
 .rw[aI b,ag b,aH,aa];refine XA (fun n k z=>HV F0 (y9 F0) n (y8 id list k 0 0 w.1.1 w.1.2 [] [] [] [] w.2.1 w.2.2.1 w.2.2.2.1 z)) list (avz id) (fun z=>z.length<=300) _ w.2.2.2.2 hs (fun z p o d=>aew d) (fun n k z c d=>?_) (fun n=>?_) _ (by rw[bH];omega)
  .rw[Mj,aP c,ae,ao c,ad,a8 c,aAa (j _ (b2 c)),ai];have q:=abt id list[k].2;refine XA (fun m a (y:List cv)=>rO F0 (J5 F0 (y9 F0) n) m (lP id list (k:Int) a 0 0 w.1.1 w.1.2 (cD id list[k].2) [] [] [] [] w.2.1 w.2.2.1 w.2.2.2.1 y)) (cD id list[k].2) s4 (fun y=>y.length<=300) _ z d (fun y x r g=>abu g x) (fun m a y e g=>?_) (fun m=>?_) _ (by rw[bH];omega)
   .rw[Mi,aP e,ae,ao e,ad,a8 e,api (by omega),ai,ax (by omega) (by omega) (by first|omega|(simp only[aG,aW,bj];omega)|(rw[bc,bC];omega)),ad,al (by omega)];unfold s4;by_cases i:y.length<300
    .rw[aI (show(y.length:Int)<300 by omega),ae];cases jF y (cD id list[k].2)[a].1 (cD id list[k].2)[a].2.1 (cD id list[k].2)[a].2.2 with
     |true=>rw[af (fun f=>by cases f.2)];rfl
     |false=>rw[ag ⟨i,rfl⟩];rfl
    .rw[aL (show ¬(y.length:Int)<300 by omega),aa,af (fun f=>i f.1)]
   .rw[Mi,aE,aa,afG,al (by omega)];rfl
  .rw[Mj,aE,aa,afH];rfl
 .rw[aL b,af b];rfl
def aAb {w:ah}(h:N9 w)(hs:w.2.2.2.2.length<=300)(id:Int){list:List gQ}(l:list.length<=1048576)(j:∀p∈list,fT p.2):Re F0 w id list=some (mj w id list,()):=by
 rw[aqM,ov h,ai,wT h.l,ai,eM (by have:=Fm w;have:=h.l.r;dsimp only;omega),ai];unfold mj;by_cases b:id∈aM w
 .rw[aI b,ag b,aH,aa];refine XA (fun n k z=>Ie F0 (Ax F0) n (Aw id list (list.length:Int) k 0 0 w.1.1 w.1.2 [] [] [] [] w.2.1 w.2.2.1 w.2.2.2.1 z)) list (avz id) (fun z=>z.length<=300) _ w.2.2.2.2 hs (fun z p o d=>aew d) (fun n k z c d=>?_) (fun n=>?_) _ (by rw[bH];omega)
  .rw[MM,aP c,ae,ao c,ad,a8 c,aiE (j _ (b2 c)),ai];have q:=abt id list[k].2;refine XA (fun m a (y:List cv)=>r8 F0 (Kp F0 (Ax F0) n) m (l6 id list (list.length:Int) (k:Int) ((cD id list[k].2).length:Int) a 0 0 w.1.1 w.1.2 (cD id list[k].2) [] [] [] [] w.2.1 w.2.2.1 w.2.2.2.1 y)) (cD id list[k].2) s4 (fun y=>y.length<=300) _ z d (fun y x r g=>abu g x) (fun m a y e g=>?_) (fun m=>?_) _ (by rw[bH];omega)
   .rw[ML,aP e,ae,ao e,ad,a8 e,CH (by omega),ai,ax (by omega) (by omega) (by first|omega|(simp only[aG,aW,bj];omega)|(rw[bc,bC];omega)),ad,al (by omega)];unfold s4;by_cases i:y.length<300
    .rw[aI (show(y.length:Int)<300 by omega),ae];cases jF y (cD id list[k].2)[a].1 (cD id list[k].2)[a].2.1 (cD id list[k].2)[a].2.2 with
     |true=>rw[af (fun f=>by cases f.2)];rfl
     |false=>rw[ag ⟨i,rfl⟩];rfl
    .rw[aL (show ¬(y.length:Int)<300 by omega),aa,af (fun f=>i f.1)];cases jF y (cD id list[k].2)[a].1 (cD id list[k].2)[a].2.1 (cD id list[k].2)[a].2.2<;>rfl
   .rw[ML,aE,aa,af1,al (by omega)];rfl
  .rw[MM,aE,aa,af2];rfl
 .rw[aL b,af b];rfl
def Z0 (c:Int×Int)(a:List kV)(p:gQ):List kV:=if a.length<60/\cV c p.2=true/\eF 0 (aj (c.1-1)) p.1=true then a++[(p.1,CD p.2)] else a
def apj (c:Int×Int)(list:List gQ)(a:List kV):List kV:=list.foldl (Z0 c) a
def Bb (w:ah)(list:List gQ):ah:=(w.1,w.2.1,w.2.2.1,apj w.1 list w.2.2.2.1,w.2.2.2.2)
def ag1 {c:Int×Int}{a:List kV}(h:a.length<=60)(p:gQ):(Z0 c a p).length<=60:=by
 unfold Z0;split
 .rename_i b;rw[aG,dt];omega
 .exact h
def asx (c:Int×Int)(m:bW):decide (((aef c m).length:Int)>0)=cV c m:=by
 unfold aef;cases h:cV c m with
 |false=>rfl
 |true =>
  have:=(aoW h).2.2;rw[ag rfl];exact aI (by omega)
def aiG {w:ah}(e:w.2.2.2.1.length<=60){list:List gQ}(h:list.length<=1048576)(f:∀p∈list,fT p.2):y4 F0 w list=some ((Bb w list,()),()):=by
 rw[ajK];refine XA (fun n k z=>jo F0 (B9 F0) n (fL list k w.1.1 w.1.2 0 0 w.2.1 w.2.2.1 z w.2.2.2.2 [] [] [] [])) list (Z0 w.1) (fun z=>z.length<=60) _ w.2.2.2.1 e (fun z p i c=>ag1 c p) (fun n k z b c=>?_) (fun n=>?_) _ (by rw[bH];omega)
 .rw[GH,aP b,ae,ao b,ad,a8 b,show((w.1.1,w.1.2):Int×Int)=w.1 from rfl,avd (f _ (b2 b)),ai,ad,cO,ai,ad,ax (by omega) (by omega) (by first|omega|(simp only[aG,aW,bj];omega)|(rw[bc,bC];omega)),ad,al (by omega)];dsimp only;rw[asx];unfold Z0;by_cases d:z.length<60
  .rw[aI (show(z.length:Int)<60 by omega),ae];cases g:cV w.1 list[k].2 with
   |false=>rw[af (fun a=>by cases a.2.1)];rfl
   |true =>
    cases j:eF 0 (aj (w.1.1-1)) list[k].1 with
    |false=>rw[af (fun a=>by cases a.2.2)];rfl
    |true=>rw[ag ⟨d,rfl,rfl⟩,ae,ae,show aef w.1 list[k].2=CD list[k].2 from ag g]
  .rw[aL (show ¬(z.length:Int)<60 by omega),aa,af (fun a=>d a.1)]
 .rw[GH,aE,aa,aaE];rfl
def aDs {w:ah}(h:N9 w)(e:w.2.2.2.1.length<=60){list:List gQ}(i:list.length<=1048576)(f:∀p∈list,fT p.2):PN F0 w list=some (if jC w=true then Bb w list else w,()):=by
 rw[aup,ov h,ai,sE h.l,ai];cases cW:jC w with
 |false=>rfl
 |true =>
  rw[aH,aa,ag rfl];refine XA (fun n k z=>p5 F0 (NY F0) n (kQ list (list.length:Int) k w.1.1 w.1.2 w.2.1 w.2.2.1 w.2.2.2.1 w.2.2.2.2 0 0 w.1.1 w.1.2 [] [] [] [] w.2.1 w.2.2.1 z w.2.2.2.2)) list (Z0 w.1) (fun z=>z.length<=60) _ w.2.2.2.1 e (fun z p j c=>ag1 c p) (fun n k z b c=>?_) (fun n=>?_) _ (by rw[bH];omega)
  .rw[PL,aP b,ae,ao b,ad,a8 b,show((w.1.1,w.1.2):Int×Int)=w.1 from rfl,ZV (f _ (b2 b)),ai,bP,ai,ax (by omega) (by omega) (by first|omega|(simp only[aG,aW,bj];omega)|(rw[bc,bC];omega)),ad,al (by omega)];dsimp only;rw[asx];unfold Z0;cases g:cV w.1 list[k].2 with
   |false=>rw[af (fun a=>by cases a.2.1)];rfl
   |true =>
    cases l:eF 0 (aj (w.1.1-1)) list[k].1 with
    |false=>rw[af (fun a=>by cases a.2.2)];rfl
    |true =>
     by_cases d:z.length<60
     .rw[aI (show(z.length:Int)<60 by omega),ag ⟨d,rfl,rfl⟩,show aef w.1 list[k].2=CD list[k].2 from ag g];rfl
     .rw[aL (show ¬(z.length:Int)<60 by omega),af (fun a=>d a.1)];rfl
  .rw[PL,aE,aa,aki];rfl
def ak4 {c:Int×Int}{r:ar}{a:Int}{m:bW}:(jN c r a m).1.1=r.1:=by unfold jN;split<;>rfl
def aE9 {c:Int×Int}{r:ar}{q:b1}:(my c r q).1.1=r.1:=by
 have h:(written c r q).1.1=r.1:=aen;unfold my;split
 .split
  .exact h
  .split
   .exact h
   .rw[ak4];exact h
 .rfl
def apk {c:Int×Int}{r:ar}{view:Int}{name:ByteArray}{a:Bool}:(ez c r view name a).1.1=r.1:=by
 unfold ez;split
 .rfl
 .split
  .split
   .exact aE9
   .rfl
  .split
   .rfl
   .exact ak4
def aIp {c:Int×Int}{r:ar}{name:ByteArray}:(own c r name).1.1=r.1:=by
 unfold own;split
 .rw[apk];rfl
 .rfl
def aFa {r:ar}{b:ca}:(gH r b).1=r.1:=by unfold gH;split<;>rfl
def aex {c:Int×Int}{r:ar}{b:ca}:(dV c r b).1.1=r.1:=by
 have h:(fD c (gH r b) (ny c r b)).1.1=r.1:=by rw[aen,aFa]
 unfold dV Ba;split
 .split
  .split
   .rw[aIp];exact h
   .rfl
  .exact h
 .rfl
def axU {c:Int×Int}{r:ar}{p:b1}:(fE c r p).1.1=r.1:=by
 unfold fE;split
 .rw[apk];rfl
 .rfl
def axV {imp:Bool}{c:Int×Int}{r:ar}{view:Int}{q:b1}{cu:Int}:(fF imp c r view q cu).1.1=r.1:=by
 have h:(written c r q).1.1=r.1:=aen;have b:∀(l:Bool) (a:ar),(Fl l a view q).1=a.1:=fun l a=>by unfold Fl;split<;>rfl
 unfold fF oD;split
 .split
  .split
   .rw[b];exact h
   .rfl
  .rw[b];exact h
 .rfl
def aFb {imp:Bool}{c:Int×Int}{r:ar}{m:bW}:(q5 imp c r m).1.1=r.1:=by
 unfold q5;split
 .exact aex
 .split
  .exact axU
  .split
   .exact axV
   .rfl
def avA {imp:Bool}{c:Int×Int}{r:ar}{m:bW}:(CG imp c r m).1.1=r.1:=by
 unfold CG;split
 .exact aFb (imp:=imp)
 .rfl
def aFc {c:Int×Int}{r:ar}:(wV c r).1.1=r.1:=by
 unfold wV;split
 .rfl
 .split
  .split
   .rfl
   .rfl
  .split
   .rw[ak4];rfl
   .rfl
def ag2 {c:Int×Int}{r:ar}{m:bW}:∀(j k:Nat) (o:ar),o.1=r.1->(nx c r m j k o).1.1=r.1
 |0,_,_,h=>h|j+1,k,o,h=>by
  unfold nx;split
  .exact ag2 j (k+1) o h
  .split
   .exact ag2 j (k+1) _ (by rw[ak4];exact h)
   .rfl
def Bc (r:ar):ar:=(r.1,r.2.1,r.2.1,r.2.2.2)
def aX.Bc {c:Int×Int}{r:ar}(h:aX c r):aX c (Bc r):=by have a:=h.view;exact⟨⟨h.f.cf,h.f.i,h.f.v,by show eF 0 60 r.2.1=true;simp only[eF,aA,bR];omega,h.f.s,h.f.p,h.f.t,h.f.d,h.f.n,h.f.h⟩,h.b⟩
def aey (c:Int×Int)(r:ar):ar×Bool:=RM c (Bc r) (aem (ask c r).1)
def Ob (c:Int×Int)(r:ar):ar×Int :=
 if (ask c r).2=true then (if (aey c r).2=true/\(dV c (aey c r).1 (ask c r).1).2=true then ((dV c (aey c r).1 (ask c r).1).1,0) else (r,4)) else (r,3)
def aAc {c:Int×Int}{r:ar}(h:aX c r):aX c (aey c r).1:=h.Bc.aGX _
def aX.Ob {c:Int×Int}{r:ar}(h:aX c r):aX c (Ob c r).1:=by
 unfold Tryz.Ob;split
 .split
  .exact(aAc h).apf _
  .exact h
 .exact h
def aG2 {c:Int×Int}{r:ar}:(Ob c r).1.1=r.1:=by
 unfold Ob;split
 .split
  .rw[aex];exact ag2 _ _ _ rfl
  .rfl
 .rfl
def axW {c:Int×Int}{r:ar}(h:aX c r):Iw F0 c r=some ((Ob c r).1,(Ob c r).2,()):=by
 rw[akA,aE4 h,ai,dN h.bt,ai];unfold Ob;cases d:(ask c r).2 with
 |false=>rfl
 |true =>
  obtain⟨_,b,_,_⟩:=aE5 d;obtain⟨e,f⟩:=I4 b;have g:AX F0 c (r.1,r.2.1,r.2.1,r.2.2.2) (1,0,(ask c r).1,(0,ak,[]),(0,ak,[]),0,0,0,0,0)=some ((aey c r).1,(aey c r).2,()):=avu h.Bc (abo e f);dsimp only;rw[g,ai,WN (aAc h) b,ai,aH,aa,ag rfl];cases (aey c r).2 with
  |false=>rw[af (fun a=>by cases a.1)];rfl
  |true =>
   cases (dV c (aey c r).1 (ask c r).1).2 with
   |false=>rw[af (fun a=>by cases a.2)];rfl
   |true=>rw[ag ⟨rfl,rfl⟩];rfl
def ml (c:Int×Int)(r:ar):Nat->ar×Int
 |0=>(r,3)|k+1=>if dd (r.2.2.2.2.2.1.getD k b8).2.1=true then ml c r k
  else if (ez c r (r.2.2.2.2.2.1.getD k b8).1 (r.2.2.2.2.2.1.getD k b8).2.1 true).2=true then ((ez c r (r.2.2.2.2.2.1.getD k b8).1 (r.2.2.2.2.2.1.getD k b8).2.1 true).1,0) else (r,3)
def asy (c:Int×Int)(r:ar):ar×Int:=ml c r r.2.2.2.2.2.1.length
def axX {c:Int×Int}{r:ar}(h:aX c r):∀k,aX c (ml c r k).1
 |0=>h|k+1=>by
  unfold ml;split
  .exact axX h k
  .split
   .exact h.avr _ _ _
   .exact h
def asz {c:Int×Int}{r:ar}:∀k,(ml c r k).1.1=r.1
 |0=>rfl|k+1=>by
  unfold ml;split
  .exact asz k
  .split
   .exact apk
   .rfl
def asA {c:Int×Int}{r:ar}(h:aX c r):∀(k n:Nat),k<=r.2.2.2.2.2.1.length->k<n ->
  vq F0 (pj F0) n (ph ((k:Int)-1) c.1 c.2 r.1 r.2.1 r.2.2.1 r.2.2.2.1.1 r.2.2.2.1.2.1 r.2.2.2.1.2.2.1.1 r.2.2.2.1.2.2.1.2.1 r.2.2.2.1.2.2.1.2.2 r.2.2.2.1.2.2.2 r.2.2.2.2.1 r.2.2.2.2.2.1 r.2.2.2.2.2.2.1.1 r.2.2.2.2.2.2.1.2 r.2.2.2.2.2.2.2 0 0 0 0 0 0 ak ak 0 [] [] [] [] [])
   = some ((ml c r k).1,(ml c r k).2,())
 |0,n+1,a,b=>by rw[E8,aL (show ¬((0:Nat):Int)-1>=0 by omega),aa,X3];rfl
 |k+1,n+1,a,b=>by
  have hk':k<r.2.2.2.2.2.1.length:=by omega
  have e:=h.f.l.t;have d:=abp h (r.2.2.2.2.2.1[k]).1 (h.l.tq _ (b2 hk')).1 true;rw[E8,show((k+1:Nat):Int)-1=(k:Int) by omega,aI (show(k:Int)>=0 by omega),ae,ao hk',ad,a8 hk',KJ];unfold ml;rw[aV hk',show((r.2.2.2.2.2.1[k]).2.1.toList==ak.toList)=dd (r.2.2.2.2.2.1[k]).2.1 from rfl];cases f:dd (r.2.2.2.2.2.1[k]).2.1 with
  |true =>
   rw[ag rfl,aH,aa,aF (by omega) (by omega)];exact asA h k n (by omega) (by omega)
  |false =>
   rw[af (by decide),ea,ae];refine BD (oF (fun x=>Option.bind x _) d) ?_;rw[ai];cases (ez c r (r.2.2.2.2.2.1[k]).1 (r.2.2.2.2.2.1[k]).2.1 true).2 with
   |false=>rfl|true=>rw[KJ];rfl
def avB {c:Int×Int}{r:ar}(h:aX c r):Ee F0 c r=some ((asy c r).1,(asy c r).2,()):=by have a:=h.f.l.t;rw[agr,aF (by omega) (by omega)];exact asA h r.2.2.2.2.2.1.length F0.n (bf _) (by rw[bH];omega)
def Ek (r:ar)(d:pr):ar:=(r.1,r.2.1,r.2.2.1,r.2.2.2.1,r.2.2.2.2.1,r.2.2.2.2.2.1,d,r.2.2.2.2.2.2.2)
def WR (r:ar)(keep:Int):ar:=Ek r (gG r.2.2.2.2.2.2.1 keep)
def aiH (c:Int×Int)(r:ar)(keep:Int):ar:=avi c (WR r keep)
def aX.WR {c:Int×Int}{r:ar}(h:aX c r)(keep:Int):aX c (WR r keep):=by
 have b:=aeh h.f.d keep;have d:=c8.1 h.f.d;have e:gG r.2.2.2.2.2.2.1 keep=(r.2.2.2.2.2.2.1.1.take (Hc r.2.2.2.2.2.2.1 keep).toNat,Hc r.2.2.2.2.2.2.1 keep):=ag h.f.d;refine⟨⟨h.f.cf,h.f.i,h.f.v,h.f.a,h.f.s,h.f.p,h.f.t,?_,h.f.n,h.f.h⟩,?_⟩
 .show fi (gG r.2.2.2.2.2.2.1 keep)=true;rw[e];refine c8.2 ⟨?_,?_,?_⟩
  .dsimp only;rw[bC];omega
  .dsimp only;omega
  .dsimp only;rw[bC];omega
 .show ∀x∈(gG r.2.2.2.2.2.2.1 keep).1,_;rw[e];exact fun x a=>h.b x (TY a)
def abv {c:Int×Int}(a:bw c=true):bh c jD=true:=by unfold bh eN X9 jD;simp only[a,eF];rfl
def aDt {c:Int×Int}{b:List Int}(a:bw c=true):bh c (nu c b).1=true:=by
 unfold nu;split
 .rename_i h;exact h.2.2
 .exact abv a
def axY {c:Int×Int}{b:List Int}(e:bw c=true):∀(f:Nat) (s:a1) (a:Nat),bh c s=true->bh c (Fi c b f s a).1=true
 |0,_,_,h=>h|f+1,s,a,h=>by
  cases d:Hb c b a with
  |none=>rw[hY d];exact h
  |some z =>
   obtain⟨j,k⟩:=z;rw[CB d];refine axY e f j k ?_;cases g:q0 b a with
   |none=>rw[CA g]at d;cases d
   |some y =>
    obtain⟨v,l⟩:=y;rw[Cz g]at d;split at d
    .cases d
    .split at d
     .cases d
     .split at d
      .have i:=oF Prod.fst (eE d);dsimp only at i;rw[<-i];exact aDt e
      .cases d
def axZ {c:Int×Int}(a:bw c=true)(b:List Int):bh c (dL c b).1=true:=axY a _ _ _ (abv a)
def aX.aJq {c:Int×Int}{r:ar}(h:aX c r):aX c (avi c r):=by
 have b:=axZ h.f.cf r.2.2.2.2.2.2.1.1;have d:=WK c h.bt.d;have e:=c8.1 h.f.d;obtain⟨f,g,i,j⟩:=cB b;refine⟨⟨h.f.cf,h.f.i,?_,rfl,b,rfl,rfl,?_,aO _,fun x a=>by cases a⟩,fun x a=>h.b x (TY a)⟩
 .show eF 1 60 (ao0 (dL c r.2.2.2.2.2.2.1.1).1)=true;simp only[eF,aA,bR];unfold ao0 Gc pw
  repeat' split
  all_goals omega
 .show fi (r.2.2.2.2.2.2.1.1.take (dL c r.2.2.2.2.2.2.1.1).2,((dL c r.2.2.2.2.2.2.1.1).2:Int))=true;refine c8.2 ⟨?_,?_,?_⟩
  .dsimp only;rw[bC];omega
  .dsimp only;omega
  .dsimp only;rw[bC];omega
def aX.aiH {c:Int×Int}{r:ar}(h:aX c r)(keep:Int):aX c (aiH c r keep):=(h.WR keep).aJq
abbrev cC:=Int×Int×Int×bW
def akH (imp:Bool)(c:Int×Int)(r:ar)(m:bW):ar×Int:=if (CG imp c r m).2=true/\m.1=4 then ((CG imp c r m).1,0) else (r,3)
def RP (imp:Bool)(c:Int×Int)(r:ar)(d:cC):ar×Int :=
 if d.1=1 then Ob c r else if d.1=6 then asy c r else if d.1=7 then (if (wV c r).2=true then ((wV c r).1,0) else (r,3)) else if d.1=8 then (aiH c r d.2.2.1,0) else akH imp c r d.2.2.2
def aX.RP {c:Int×Int}{r:ar}(h:aX c r)(imp:Bool)(d:cC):aX c (RP imp c r d).1:=by
 unfold Tryz.RP;split
 .exact h.Ob
 .split
  .exact axX h _
  .split
   .split
    .exact h.aJp
    .exact h
   .split
    .exact h.aiH _
    .unfold akH;split
     .exact h.heard _ _
     .exact h
def aG3 {imp:Bool}{c:Int×Int}{r:ar}{d:cC}:(RP imp c r d).1.1=r.1:=by
 unfold RP;split
 .exact aG2
 .split
  .exact asz _
  .split
   .split
    .exact aFc
    .rfl
   .split
    .rfl
    .unfold akH;split
     .exact avA
     .rfl
def ax0 {c:Int×Int}{r:ar}(h:aX c r){d:cC}(j:fT d.2.2.2):Ix F0 c r d=some ((RP true c r d).1,(RP true c r d).2,()):=by
 have k:Qd F0 c (r.1,r.2.1,r.2.2.1,r.2.2.2.1,r.2.2.2.2.1,r.2.2.2.2.2.1,gG r.2.2.2.2.2.2.1 d.2.2.1,r.2.2.2.2.2.2.2)=some (aiH c r d.2.2.1,()):=aDg (h.WR d.2.2.1).bt (h.WR d.2.2.1).ok;rw[akE,dN h.bt,ai,axW h,ai,avB h,ai,aDn h,ai,axA h.bt.d.1,ai,asw h j,ai];dsimp only;rw[k,ai];unfold RP;by_cases a:d.1=1
 .rw[bg.2 a,ae,ag a]
 .rw[bQ.2 a,aa,af a];by_cases b:d.1=6
  .rw[bg.2 b,ae,ag b]
  .rw[bQ.2 b,aa,af b];by_cases e:d.1=7
   .rw[bg.2 e,ae,ag e];cases (wV c r).2<;>rfl
   .rw[bQ.2 e,aa,af e];by_cases f:d.1=8
    .rw[bg.2 f,ae,ag f]
    .rw[bQ.2 f,aa,af f];unfold akH;cases (CG true c r d.2.2.2).2 with
     |false=>rw[af (fun i=>by cases i.1)];rfl
     |true =>
      by_cases g:d.2.2.2.1=4
      .rw[ag ⟨rfl,g⟩,bg.2 g];rfl
      .rw[af (fun i=>g i.2),bQ.2 g];rfl
def El:ah:=((0,0),[],[],[],[])
def asB (c:Int×Int)(x:kV):Prop:=de x.2/\(mv c x.2).2=true/\eF 0 (aj (c.1-1)) x.1=true
def ax1 (c:Int×Int)(x:cv):Prop:=eF 0 (aj (c.1-1)) x.2.2=true/\bd x.2.1.data.toList=true/\aD x.2.1.data.toList=x.1
structure aK (w:ah):Prop where
 c:bw w.1=true
 l:jI w.1.1 w.2.1=true
 lf:(w.2.1.length:Int)<=vY w.1
 n:(w.2.2.1.length:Int)=w.1.1
 g:∀r∈w.2.2.1,aX w.1 r
 id:∀(k:Nat) (h:k<w.2.2.1.length),(w.2.2.1[k]).1=(k:Int)
 nl:w.2.2.2.1.length<=60
 nb:∀x∈w.2.2.2.1,asB w.1 x
 sl:w.2.2.2.2.length<=300
 sb:∀x∈w.2.2.2.2,ax1 w.1 x
def aK.le7 {w:ah}(h:aK w):4<=w.2.2.1.length/\w.2.2.1.length<=7:=by have:=b4 h.c;have:=h.n;omega
def aK.liars {w:ah}(h:aK w):w.2.1.length<=7:=by have a:=b4 h.c;have:=agQ h.l;omega
def aAd {c:Int×Int}{x:cv}(h:ax1 c x):x.2.1.size<=1048576:=bZ (j1 h.2.1) (by omega)
def aK.w {w:ah}(h:aK w):N9 w :=
 ⟨⟨by have:=h.liars;omega,by have:=h.le7;omega,fun x a=>(h.g x a).l,by have:=h.nl;omega,fun x a=>(h.nb x a).1,by have:=h.sl;omega,fun x a=>aAd (h.sb x a)⟩,fun r b=>(h.g r b).bt.d⟩
def I5 {U:Type}{l:List U}{k:Nat}(h:k<l.length)(d:U):l.getD k d=l[k]:=aV h d
def aK.ok {w:ah}(h:aK w):jC w=true:=by
 unfold jC aoF IA sD;simp only[aA,Yc,avT,RV,fq,fV];refine⟨h.c,h.l,by have:=h.lf;omega,h.n,by have:=h.nl;omega,by have:=h.sl;omega,fun k a=>?_,fun k a=>?_,fun k a=>?_⟩
 .unfold aoE;rw[I5 a,aA,bg];exact⟨(h.g _ (b2 a)).ok,h.id k a⟩
 .unfold aba;rw[I5 a,aA];exact(h.nb _ (b2 a)).2
 .unfold abb;rw[I5 a,aA,aA,bg];exact h.sb _ (b2 a)
def aK.of {w:ah}(h:jC w=true)(e:∀x∈w.2.2.2.1,de x.2)(f:∀r∈w.2.2.1,∀x∈r.2.2.2.2.2.2.1.1,0<=x/\x<=255):aK w:=by
 unfold jC aoF IA sD at h;simp only[aA,Yc,avT,RV,fq,fV]at h;obtain⟨g,i,o,j,p,q,l,m,n⟩:=h;have c:∀k (a:k<w.2.2.1.length),mh w.1 w.2.2.1[k]=true/\(w.2.2.1[k]).1=(k:Int):=fun k a=>by have:=l k a;unfold aoE at this;rw[I5 a,aA,bg]at this;exact this
 refine⟨g,i,by omega,j,fun r d=>?_,fun k a=>(c k a).2,by omega,fun x b=>?_,by omega,fun x b=>?_⟩
 .obtain⟨k,a,rfl⟩:=ahe d;exact⟨CF.1 (c k a).1,f _ d⟩
 .obtain⟨k,a,rfl⟩:=ahe b;have:=m k a;unfold aba at this;rw[I5 a,aA]at this;exact⟨e _ b,this⟩
 .obtain⟨k,a,rfl⟩:=ahe b;have:=n k a;unfold abb at this;rw[I5 a,aA,aA,bg]at this;exact this
def bU (w:ah)(a:Int):ar:=w.2.2.1.getD a.toNat ad4
def eR (w:ah)(a:Int)(r:ar):ah:=(w.1,w.2.1,w.2.2.1.set a.toNat r,w.2.2.2)
def aAe {w:ah}{a:Int}(b:0<=a)(c:a<w.2.2.1.length):bU w a∈w.2.2.1:=by unfold bU;rw[aV (show a.toNat<w.2.2.1.length by omega)];exact b2 _
def aK.rep {w:ah}(h:aK w){a:Int}(b:0<=a)(c:a<w.2.2.1.length):aX w.1 (bU w a)/\(bU w a).1=a:=by refine⟨h.g _ (aAe b c),?_⟩;unfold bU;rw[aV (show a.toNat<w.2.2.1.length by omega),h.id _ (show a.toNat<w.2.2.1.length by omega)];omega
def aK.eR {w:ah}(h:aK w){a:Int}(i:0<=a){r:ar}(c:aX w.1 r)(d:r.1=a):aK (eR w a r):=by
 refine⟨h.c,h.l,h.lf,by show((w.2.2.1.set a.toNat r).length:Int)=_;rw[Eo];exact h.n,fun x b=>?_,fun k f=>?_,h.nl,h.nb,h.sl,h.sb⟩
 .rcases ayx b with b|rfl
  .exact h.g x b
  .exact c
 .have hk':k<(w.2.2.1.set a.toNat r).length:=f;have g:((w.2.2.1.set a.toNat r)[k]'hk').1=(k:Int):=by
   rw[List.getElem_set];split
   .rename_i e;rw[d];omega
   .exact h.id k (by rw[Eo]at hk';exact hk')
  exact g
def aB0 {c:Int×Int}{q:b1}(d:bd q.2.1.data.toList=true)(e:q.2.1.data.toList≠[]->aD q.2.1.data.toList=q.1){id:Int}(f:eF 0 (aj (c.1-1)) id=true):∀x∈TH id q,ax1 c x:=by
 intro x a;unfold TH at a;cases b:dd q.2.1 with
 |true=>rw[b,ag rfl]at a;cases a
 |false =>
  rw[b,af (by decide)]at a;split at a
  .rw[fA.1 a];refine⟨f,d,e fun g=>?_⟩;rw[(q3 _).2 g]at b;cases b
  .cases a
def aFe {c:Int×Int}{m:bW}(f:cV c m=true){id:Int}(b:eF 0 (aj (c.1-1)) id=true):∀x∈cD id m,ax1 c x:=by
 have a:=aeu f;have d:∀q:b1,eN c q=true->∀x∈TH id q,ax1 c x:=fun q g=>by obtain⟨_,h,i,_⟩:=v8 g;exact aB0 h (fun _=>i) b
 rcases a.k with k|k|k|k
 .have e:=a.b k;simp only[fj,aA]at e;unfold cD;rw[af (by omega),af (by omega),ag k];exact d _ e.1
 .obtain⟨_,_,_,_,_,j,l⟩:=aea (a.p k).1;unfold cD;rw[af (by omega),ag k];exact aB0 j l b
 .unfold cD;rw[af (by omega),af (by omega),af (by omega)];exact d _ (a.v k).2.1
 .unfold cD;rw[ag k];exact fun x n=>by cases n
def aAf {l:List cv}{y x:cv}(h:x∈s4 l y):x∈l\/x=y:=by
 unfold s4 at h;split at h
 .rcases gK.1 h with h|h
  .exact .inl h
  .exact .inr (fA.1 h)
 .exact .inl h
def apl:∀{ys l:List cv} {x:cv},x∈ys.foldl s4 l->x∈l\/x∈ys
 |[],_,_,h=>.inl h|y::ys,l,x,h=>by
  rcases apl (ys:=ys) h with h|h
  .rcases aAf h with h|rfl
   .exact .inl h
   .exact .inr py
  .exact .inr (jG _ h)
def WS {id:Int}:∀{ps:List gQ} {l:List cv} {x:cv},x∈RN id ps l->x∈l\/∃p∈ps,x∈cD id p.2
 |[],_,_,h=>.inl h|p::ps,l,x,h=>by
  rcases WS (ps:=ps) h with h|⟨q,a,h⟩
  .rcases apl h with h|h
   .exact .inl h
   .exact .inr ⟨p,py,h⟩
  .exact .inr ⟨q,jG _ a,h⟩
def fm {w:ah}{id:Int}(h:id∈aM w):0<=id/\id<w.2.2.1.length:=by have:=agK w.2.1 w.2.2.1.length id h;exact this
def aK.eF {w:ah}(h:aK w){a:Int}(c:0<=a)(d:a<w.2.2.1.length):eF 0 (aj (w.1.1-1)) a=true:=by have b:=b4 h.c;have e:=h.n;rw[Wt b.1 b.2.1];simp only[Tryz.eF,aA,bR];omega
def aK.aAg {w:ah}(h:aK w){a:Int}(b:Tryz.eF 0 (aj (w.1.1-1)) a=true):0<=a/\a<w.2.2.1.length:=by have c:=b4 h.c;have d:=h.n;rw[Wt c.1 c.2.1]at b;simp only[Tryz.eF,aA,bR]at b;omega
def aK.mj {w:ah}(h:aK w)(id:Int){list:List gQ}(d:∀p∈list,cV w.1 p.2=true):aK (mj w id list):=by
 unfold Tryz.mj;by_cases b:id∈aM w
 .rw[ag b];have c:=fm b;refine⟨h.c,h.l,h.lf,h.n,h.g,h.id,h.nl,h.nb,aiF id h.sl,fun x a=>?_⟩;rcases WS a with a|⟨p,e,a⟩
  .exact h.sb x a
  .exact aFe (d p e) (h.eF c.1 c.2) x a
 .rw[af b];exact h
def asC {c:Int×Int}{m:bW}(h:cV c m=true){a:Int}(b:eF 0 (aj (c.1-1)) a=true):asB c (a,CD m):=by have d:=aoW h;exact⟨⟨by dsimp only;omega,d.2.1⟩,by rw[agR h],b⟩
def apm {c:Int×Int}:∀{ps:List gQ} {l:List kV} {x:kV},x∈apj c ps l->x∈l\/asB c x
 |[],_,_,h=>.inl h|p::ps,l,x,h=>by
  rcases apm (ps:=ps) h with h|h
  .unfold Z0 at h;split at h
   .rename_i a;rcases gK.1 h with h|h
    .exact .inl h
    .rw[fA.1 h];exact .inr (asC a.2.1 a.2.2)
   .exact .inl h
  .exact .inr h
def apn {c:Int×Int}:∀{ps:List gQ} {l:List kV},l.length<=60->(apj c ps l).length<=60
 |[],_,h=>h|p::ps,l,h=>apn (ps:=ps) (ag1 h p)
def aK.send {w:ah}(h:aK w)(list:List gQ):aK (Bb w list) :=
 ⟨h.c,h.l,h.lf,h.n,h.g,h.id,apn h.nl,fun x a=>(apm a).elim (h.nb x) (fun h=>h),h.sl,h.sb⟩
def aK.WT {w:ah}(h:aK w){a:List kV}(b:a.length<=60)(c:∀x∈a,asB w.1 x):aK (w.1,w.2.1,w.2.2.1,a,w.2.2.2.2) :=
 ⟨h.c,h.l,h.lf,h.n,h.g,h.id,b,c,h.sl,h.sb⟩
def aX.avC {c:Int×Int}{r:ar}(h:aX c r):∀p∈r.2.2.2.2.2.2.2,cV c p.2=true:=fun p a=>axG (h.f.h p a)
def aX.aHS {c:Int×Int}{r:ar}(h:aX c r):∀p∈r.2.2.2.2.2.2.2,fT p.2:=fun p a=>avo (h.avC p a)
def Good (w:ah):Prop:=N9 w/\(jC w=true->aK w)
def aK.aAh {w:ah}(h:aK w):Good w:=⟨h.w,fun _=>h⟩
def aK.aHT {w:ah}(h:aK w){a:List kV}(f:a.length<=61)(c:∀x∈a,asB w.1 x):Good (w.1,w.2.1,w.2.2.1,a,w.2.2.2.2) :=
 ⟨⟨⟨h.w.l.l,h.w.l.r,h.w.l.rl,by show a.length<=_;omega,fun x b=>(c x b).1,h.w.l.s,h.w.l.st⟩,h.w.b⟩,fun d=>aK.of d (fun x b=>(c x b).1) fun r e=>(h.g r e).b⟩
def II {w:ah}{a:Int}(c:0<=a)(e:a<w.2.2.1.length)(d:ar):aN w.2.2.1 a d=bU w a:=by
 have b:a.toNat<w.2.2.1.length:=by omega
 unfold bU;rw[aV b];exact aV b d
def aB1 (l:List cv)(id:Int)(list:List gQ):Bool:=list.all fun p=>(cD id p.2).all fun x=>jF l x.1 x.2.1 x.2.2
def a6 (w:ah)(a:Int):List gQ:=(bU w a).2.2.2.2.2.2.2
def kW (w:ah)(a:Int):ah:=eR (mj w a (a6 w a)) a (NC (bU w a))
def QA (w:ah)(a:Int):ah×Int :=
 if aB1 (mj w a (a6 w a)).2.2.2.2 a (a6 w a)=true then (if w.2.2.2.1.length+(a6 w a).length<=60 then (Bb (kW w a) (a6 w a),0) else (w,4)) else (w,4)
def apo (w:ah)(id:Int)(list:List gQ):(mj w id list).1=w.1/\(mj w id list).2.2.1=w.2.2.1/\(mj w id list).2.2.2.1=w.2.2.2.1:=by unfold mj;split<;>exact⟨rfl,rfl,rfl⟩
def aK.kW {w:ah}(h:aK w){a:Int}(b:0<=a)(d:a<w.2.2.1.length):aK (kW w a):=by obtain⟨c,f⟩:=h.rep b d;have g:=h.mj a (list:=a6 w a) c.avC;have e:=(apo w a (a6 w a)).1;exact g.eR b (by rw[e];exact c.NC) f
def avD {w:ah}(h:aK w){a:Int}(c:0<=a)(i:a<w.2.2.1.length):DR F0 w a=some ((QA w a).1,(QA w a).2,()):=by
 obtain⟨f,C⟩:=h.rep c i;have j:=f.aHS;have D:(a6 w a).length<=30:=f.f.n;have l:=h.mj a (list:=a6 w a) f.avC;have t:=avs f;have u:=aAb h.w h.sl a (list:=a6 w a) (by omega) j;have o:=(apo w a (a6 w a)).2.1;have d:=h.kW c i;rw[af4,k2 c (by omega),ad,II c i,t,ai];refine BD (oF (fun x=>Option.bind x _) u) ?_;rw[ai];dsimp only;generalize v:NC (bU w a)=S;generalize q:mj w a (a6 w a)=O at l o d;have y:∀n,fe F0 (.exit 0) (vR a w.1.1 w.1.2 w.2.1 w.2.2.1 w.2.2.2.1 w.2.2.2.2 0 0 S.1 S.2.1 S.2.2.1 S.2.2.2.1.1 S.2.2.2.1.2.1 S.2.2.2.1.2.2.1.1 S.2.2.2.1.2.2.1.2.1 S.2.2.2.1.2.2.2 S.2.2.2.2.2.2.1.2 O.1.1 O.1.2 (a6 w a) [] [] [] [] S.2.2.2.1.2.2.1.2.2 S.2.2.2.2.1 S.2.2.2.2.2.1 S.2.2.2.2.2.2.1.1 S.2.2.2.2.2.2.2 O.2.1 O.2.2.1 O.2.2.2.1 O.2.2.2.2)=(fun _:Nat=>some (if w.2.2.2.1.length+(a6 w a).length<=60 then (Bb (kW w a) (a6 w a),(0:Int),()) else (w,4,()))) n:=fun n=>by
  have r:eR O a S=kW w a:=by unfold kW;rw[q,v]
  rw[<-r]at d;have z:PN F0 ((O.1.1,O.1.2),O.2.1,O.2.2.1.set a.toNat (S.1,S.2.1,S.2.2.1,(S.2.2.2.1.1,S.2.2.2.1.2.1,(S.2.2.2.1.2.2.1.1,S.2.2.2.1.2.2.1.2.1,S.2.2.2.1.2.2.1.2.2),S.2.2.2.1.2.2.2),S.2.2.2.2.1,S.2.2.2.2.2.1,(S.2.2.2.2.2.2.1.1,S.2.2.2.2.2.2.1.2),S.2.2.2.2.2.2.2),O.2.2.2.1,O.2.2.2.2) (a6 w a)=some (Bb (eR O a S) (a6 w a),()):=by have:=aDs d.w d.nl (list:=a6 w a) (by omega) j;rw[d.ok,ag rfl]at this;exact this
  have E:=h.nl;rw[XY,aF (by omega) (by omega),k2 c (by rw[o];omega),ad,z,ai];by_cases s:w.2.2.2.1.length+(a6 w a).length<=60
  .rw[aL (show ¬(w.2.2.2.1.length:Int)+(a6 w a).length>60 by omega),aa];dsimp only;rw[ag s,r]
  .rw[aI (show(w.2.2.2.1.length:Int)+(a6 w a).length>60 by omega),ae];dsimp only;rw[af s]
 have A:=hU (fun n k=>nR F0 (fe F0) n (kx a ((a6 w a).length:Int) k w.1.1 w.1.2 w.2.1 w.2.2.1 w.2.2.2.1 w.2.2.2.2 0 0 S.1 S.2.1 S.2.2.1 S.2.2.2.1.1 S.2.2.2.1.2.1 S.2.2.2.1.2.2.1.1 S.2.2.2.1.2.2.1.2.1 S.2.2.2.1.2.2.2 S.2.2.2.2.2.2.1.2 O.1.1 O.1.2 (a6 w a) [] [] [] [] S.2.2.2.1.2.2.1.2.2 S.2.2.2.2.1 S.2.2.2.2.2.1 S.2.2.2.2.2.2.1.1 S.2.2.2.2.2.2.2 O.2.1 O.2.2.1 O.2.2.2.1 O.2.2.2.2)) (a6 w a).length
  (fun k=>(cD a ((a6 w a).getD k au0).2).all fun x=>jF O.2.2.2.2 x.1 x.2.1 x.2.2) (some (if w.2.2.2.1.length+(a6 w a).length<=60 then (Bb (kW w a) (a6 w a),(0:Int),()) else (w,4,()))) (some (w,4,()))
  (fun n k e=>?_) (fun n=>?_) F0.n (by rw[bH];omega)
 .refine BD A ?_;rw[KP (a6 w a) (fun p=>(cD a p.2).all fun x=>jF O.2.2.2.2 x.1 x.2.1 x.2.2) au0];unfold QA aB1;rw[q];cases ((a6 w a).all fun p=>(cD a p.2).all fun x=>jF O.2.2.2.2 x.1 x.2.1 x.2.2) with
  |false=>rfl
  |true =>
   rw[ag rfl,ag rfl];split<;>rfl
 .have F:=abt a ((a6 w a)[k]).2;rw[E0,aP e,ae,ao e,ad,a8 e,aiE (j _ (b2 e)),ai,aV e];have B:=hU (fun m b=>u7 F0 (pd F0 (fe F0) n) m (pc a ((a6 w a).length:Int) (k:Int) ((cD a ((a6 w a)[k]).2).length:Int) b w.1.1 w.1.2 w.2.1 w.2.2.1 w.2.2.2.1 w.2.2.2.2 0 0 S.1 S.2.1 S.2.2.1 S.2.2.2.1.1 S.2.2.2.1.2.1 S.2.2.2.1.2.2.1.1 S.2.2.2.1.2.2.1.2.1 S.2.2.2.1.2.2.2 S.2.2.2.2.2.2.1.2 O.1.1 O.1.2 (a6 w a) (cD a ((a6 w a)[k]).2) [] [] [] [] S.2.2.2.1.2.2.1.2.2 S.2.2.2.2.1 S.2.2.2.2.2.1 S.2.2.2.2.2.2.1.1 S.2.2.2.2.2.2.2 O.2.1 O.2.2.1 O.2.2.2.1 O.2.2.2.2)) (cD a ((a6 w a)[k]).2).length
   (fun b=>(fun x:cv=>jF O.2.2.2.2 x.1 x.2.1 x.2.2) ((cD a ((a6 w a)[k]).2).getD b Ry)) (nR F0 (fe F0) n (kx a ((a6 w a).length:Int) ((k+1:Nat):Int) w.1.1 w.1.2 w.2.1 w.2.2.1 w.2.2.2.1 w.2.2.2.2 0 0 S.1 S.2.1 S.2.2.1 S.2.2.2.1.1 S.2.2.2.1.2.1 S.2.2.2.1.2.2.1.1 S.2.2.2.1.2.2.1.2.1 S.2.2.2.1.2.2.2 S.2.2.2.2.2.2.1.2 O.1.1 O.1.2 (a6 w a) [] [] [] [] S.2.2.2.1.2.2.1.2.2 S.2.2.2.2.1 S.2.2.2.2.2.1 S.2.2.2.2.2.2.1.1 S.2.2.2.2.2.2.2 O.2.1 O.2.2.1 O.2.2.2.1 O.2.2.2.2)) (some (w,4,()))
   (fun m b g=>?_) (fun m=>?_) F0.n (by rw[bH];omega)
  .refine BD B ?_;rw[KP (cD a ((a6 w a)[k]).2) (fun x:cv=>jF O.2.2.2.2 x.1 x.2.1 x.2.2) Ry]
  .have G:=l.sl;rw[EZ,aP g,ae,ao g,ad,a8 g,CH (by omega),ai,aaR,aaS,al (by omega),aV g];rcases Bool.eq_false_or_eq_true (jF O.2.2.2.2 (cD a ((a6 w a)[k]).2)[b].1 (cD a ((a6 w a)[k]).2)[b].2.1 (cD a ((a6 w a)[k]).2)[b].2.2) with hs|hs
   .simp only[hs,aH,aa,fX]
   .simp only[hs,ea,ae];rfl
  .rw[EZ,aE,aa,XX,al (by omega)]
 .rw[E0,aE,aa];exact y n
def abw (a:List kV)(k:Nat):List kV:=a.take k++a.drop (k+1)
def cE (w:ah)(a:Int):kV:=w.2.2.2.1.getD a.toNat azB
def WT (w:ah)(a:List kV):ah:=(w.1,w.2.1,w.2.2.1,a,w.2.2.2.2)
def Hd (w:ah)(a:Int):ah:=WT w (abw w.2.2.2.1 a.toNat)
def WU (imp:Bool)(w:ah)(x:kV):ar:=(CG imp w.1 (bU w x.1) (mv w.1 x.2).1).1
def Z1 (imp:Bool)(w:ah)(a:Int):ah:=if (cE w a).1∈aM w then eR (Hd w a) (cE w a).1 (WU imp w (cE w a)) else Hd w a
def aez (w:ah)(d:cC):ah×Int :=
 if d.1=3 then (Z1 true w d.2.1,0) else if d.1=4 then (Hd w d.2.1,0) else if d.1=5 then (WT w (w.2.2.2.1++[cE w d.2.1]),0)
 else if Ge w.1 w.2.1 w.2.2.2.2 d.2.2.2=true then (WT w (w.2.2.2.1++[(d.2.1,CD d.2.2.2)]),0) else (w,5)
def abx {a:List kV}{k:Nat}{x:kV}(h:x∈abw a k):x∈a:=by
 rcases gK.1 h with h|h
 .exact TY h
 .exact asX h
def aAi (a:List kV)(k:Nat):(abw a k).length<=a.length:=by unfold abw;rw[aG,bC,bc];omega
def aK.Hd {w:ah}(h:aK w)(a:Int):aK (Hd w a):=h.WT (bZ (aAi _ _) h.nl) fun x b=>h.nb x (abx b)
def aK.Z1 {w:ah}(h:aK w)(imp:Bool)(a:Int):aK (Z1 imp w a):=by
 unfold Tryz.Z1;split
 .rename_i c;have b:=fm c;obtain⟨d,hid⟩:=h.rep b.1 b.2;exact(h.Hd a).eR b.1 (d.heard imp _) (by unfold WU;rw[avA];exact hid)
 .exact h.Hd a
def aK.aG4 {w:ah}(h:aK w){a:Int}(b:0<=a)(c:a<w.2.2.2.1.length):asB w.1 (cE w a):=by refine h.nb _ ?_;unfold cE;rw[aV (show a.toNat<w.2.2.2.1.length by omega)];exact b2 _
def ax2 {c:Int×Int}{b:List Int}(h:(mv c b).2=true):fT (mv c b).1/\cV c (mv c b).1=true:=by
 have:cV c (mv c b).1=true:=by
  unfold mv fin at h ⊢;split at h
  .rename_i a;rw[ag a];exact a.2.2
  .cases h
 exact⟨avo this,this⟩
def aiI {w:ah}(h:aK w){d:cC}(i:fT d.2.2.2)(l:d.1=3\/d.1=4\/d.1=5->0<=d.2.1/\d.2.1<w.2.2.2.1.length):nn F0 w d=some ((aez w d).1,(aez w d).2,()):=by
 have r:=h.nl;have hlen:=Fm w;have s:=h.le7;rw[aku,ov h.w,ai];dsimp only;unfold aez;by_cases k:d.1=3\/d.1=4\/d.1=5
 .obtain⟨f,j⟩:=l k;have b:=h.aG4 f j;obtain⟨m,t⟩:=ax2 b.2.1;have n:aj (d.2.1+1)=d.2.1+1:=aF (by omega) (by omega);have o:(d.2.1+1).toNat=d.2.1.toNat+1:=by omega
  have ex:∀a:kV,aN w.2.2.2.1 d.2.1 a=cE w d.2.1:=fun a=>by
   unfold cE;have c:d.2.1.toNat<w.2.2.2.1.length:=by omega
   rw[aV c];show w.2.2.2.1.getD d.2.1.toNat a=_;exact aV c a
  obtain⟨t0,t1⟩:=h.aAg b.2.2;obtain⟨p,hid⟩:=h.rep t0 t1;have q:∀a:ar,IV F0 w.1 (aN w.2.2.1 (cE w d.2.1).1 a) (mv w.1 (cE w d.2.1).2).1=some ((CG true w.1 (bU w (cE w d.2.1).1) (mv w.1 (cE w d.2.1).2).1).1,(CG true w.1 (bU w (cE w d.2.1).1) (mv w.1 (cE w d.2.1).2).1).2,()):=fun a=>by
   have c:(cE w d.2.1).1.toNat<w.2.2.1.length:=by omega
   have:aN w.2.2.1 (cE w d.2.1).1 a=bU w (cE w d.2.1).1:=by unfold bU;rw[aV c];exact aV c a
   rw[this];exact asw p m
  rw[k2 f j,ad,n,agM f (by omega) (by omega),ad,ad,ad,ex,aoD b.1,ai,b.2.1,ae,wT h.w.l,ai,eM (by dsimp only;omega),ai,k2 t0 t1,ad,q,ai,aee b.1.1,ai,ax (by omega) (by omega) (by first|omega|(simp only[aG,aW,bj];omega)|(rw[bc,bC];omega)),ad];dsimp only;rw[ad,o];rcases k with k|k|k
  .rw[bg.2 k,ae,ag k];unfold Z1;by_cases e:(cE w d.2.1).1∈aM w
   .rw[aI e,ae,ag e];rfl
   .rw[aL e,aa,af e];rfl
  .rw[bQ.2 (show d.1≠3 by omega),aa,bg.2 k,ae,af (by omega),ag k];rfl
  .rw[bQ.2 (show d.1≠3 by omega),aa,bQ.2 (show d.1≠4 by omega),aa,bg.2 k,ae,af (by omega),af (by omega),ag k];rfl
 .have u:=h.liars;have v:=h.sl;rw[bQ.2 (show d.1≠3 by omega),aa,bQ.2 (show d.1≠4 by omega),aa,bQ.2 (show d.1≠5 by omega),aa,af (by omega),af (by omega),af (by omega),axT (by omega) (by omega) i,ai,ZV i,ai,ax (by omega) (by omega) (by first|omega|(simp only[aG,aW,bj];omega)|(rw[bc,bC];omega)),ad];cases g:Ge w.1 w.2.1 w.2.2.2.2 d.2.2.2 with
  |false=>rfl
  |true =>
   have cW:cV w.1 d.2.2.2=true:=by unfold Ge at g;rw[aA]at g;exact g.1
   dsimp only;rw[show aef w.1 d.2.2.2=CD d.2.2.2 from ag cW];rfl
def He (d:cC):Bool:=(d.1==3) || ((d.1==4) || (d.1==5))
def fp {d:cC}:He d=true↔d.1=3\/d.1=4\/d.1=5:=by simp[He]
def Oc (w:ah)(d:cC):Bool :=
 if He d=true then eF 0 (aj ((w.2.2.2.1.length:Int)-1)) d.2.1 else if d.1=10 then eF 0 (aj (w.1.1-1)) d.2.1 else decide (d.2.1∈aM w)
def I6 {w:ah}{d:cC}(h:He d=true):Oc w d=eF 0 (aj ((w.2.2.2.1.length:Int)-1)) d.2.1:=ag h
def ag3 {w:ah}{d:cC}(h:¬He d=true)(a:d.1=10):Oc w d=eF 0 (aj (w.1.1-1)) d.2.1:=by unfold Oc;rw[af h,ag a]
def CI {w:ah}{d:cC}(h:¬He d=true)(a:¬d.1=10):Oc w d=decide (d.2.1∈aM w):=by unfold Oc;rw[af h,af a]
def ax3 {w:ah}(h:aK w)(d:cC):Ib F0 w d=some (Oc w d,()):=by
 have hlen:=Fm w;have i:=h.le7;rw[aka,bP,ai,bP,ai,wT h.w.l,ai,eM (by dsimp only;omega),ai];by_cases a:d.1=3
 .rw[bg.2 a,ae,I6 (fp.2 (.inl a))]
 .rw[bQ.2 a,aa];by_cases b:d.1=4
  .rw[bg.2 b,ae,I6 (fp.2 (.inr (.inl b)))]
  .rw[bQ.2 b,aa];by_cases c:d.1=5
   .rw[bg.2 c,ae,I6 (fp.2 (.inr (.inr c)))]
   .have g:¬He d=true:=fun f=>(fp.1 f).elim a (fun f=>f.elim b c)
    rw[bQ.2 c,aa];by_cases e:d.1=10
    .rw[bg.2 e,ae,ag3 g e]
    .rw[bQ.2 e,aa,CI g e]
def ag4 (imp:Bool)(w:ah)(d:cC):ah×Int:=(eR w d.2.1 (RP imp w.1 (bU w d.2.1) d).1,(RP imp w.1 (bU w d.2.1) d).2)
def aby (w:ah)(d:cC):ah×Int:=if d.1=2 then QA w d.2.1 else if He d=true\/d.1=10 then aez w d else ag4 true w d
def apq (w:ah)(x:ah×Int):ah×Int:=if x.2=0 then (if jC x.1=true then (x.1,0) else (w,4)) else (w,x.2)
def doI (w:ah)(d:cC):ah×Int:=if eF 1 10 d.1=true then (if Oc w d=true then apq w (aby w d) else (w,2)) else (El,1)
def QB {w:ah}(h:aK w){a:Int}(b:eF 0 (aj ((w.2.2.2.1.length:Int)-1)) a=true):0<=a/\a<w.2.2.2.1.length:=by have c:=h.nl;rw[aF (by omega) (by omega)]at b;simp only[eF,aA,bR]at b;omega
def aK.ag4 {w:ah}(h:aK w)(imp:Bool){d:cC}(a:0<=d.2.1)(b:d.2.1<w.2.2.1.length):aK (ag4 imp w d).1:=by obtain⟨c,e⟩:=h.rep a b;exact h.eR a (c.RP imp d) (by rw[aG3];exact e)
def aB2 {w:ah}(h:aK w){a:Int}(b:0<=a)(c:a<w.2.2.1.length):aK (QA w a).1:=by
 unfold QA;split
 .split
  .exact(h.kW b c).send _
  .exact h
 .exact h
def XB {w:ah}(h:aK w){d:cC}(f:He d=true->0<=d.2.1/\d.2.1<w.2.2.2.1.length)(g:¬He d=true->eF 0 (aj (w.1.1-1)) d.2.1=true):Good (aez w d).1:=by
 have m:=h.nl;unfold aez;split
 .exact(h.Z1 true _).aAh
 .split
  .exact(h.Hd _).aAh
  .split
   .rename_i b;obtain⟨i,j⟩:=f (fp.2 (.inr (.inr b)));refine h.aHT (by rw[aG,dt];omega) fun x a=>?_
    rcases gK.1 a with a|a
    .exact h.nb x a
    .rw[fA.1 a];exact h.aG4 i j
   .split
    .rename_i k l b c;have cW:cV w.1 d.2.2.2=true:=by unfold Ge at c;rw[aA]at c;exact c.1
     refine h.aHT (by rw[aG,dt];omega) fun x a=>?_
     rcases gK.1 a with a|a
     .exact h.nb x a
     .rw[fA.1 a];exact asC cW (g fun e=>(fp.1 e).elim k (fun e=>e.elim l b))
    .exact h.aAh
def aFf {w:ah}(c:N9 w){x:ah×Int}(d:Good x.1) :
  br (x.2==0) ((cK F0 x.1).bind fun e=>br (!e.1) (br ((4:Int) != 0) ((aS F0 w).bind fun b=>some (b.1,(4:Int),())) (some (x.1,0,()))) (br (x.2 != 0) ((aS F0 w).bind fun b=>some (b.1,x.2,())) (some (x.1,0,())))) (br (x.2 != 0) ((aS F0 w).bind fun b=>some (b.1,x.2,())) (some (x.1,0,())))=some ((apq w x).1,(apq w x).2,()):=by
 rw[sE d.1.l,ai,ov c,ai,ai];unfold apq;by_cases a:x.2=0
 .rw[bg.2 a,ae,ag a,show(x.2 != 0)=false by simp[a]];cases jC x.1<;>rfl
 .rw[bQ.2 a,aa,af a,show(x.2 != 0)=true by simp[a]];rfl
def aIq {w:ah}(h:aK w){d:cC}(j:fT d.2.2.2):akT F0 w d=some ((doI w d).1,(doI w d).2,()):=by
 have t:=h.le7;rw[azk,sE h.w.l,ai,h.ok,aH,aa,bP,ai,ax3 h,ai,ov h.w];unfold doI;cases u:eF 1 10 d.1 with
 |false=>rfl
 |true =>
  rw[ag rfl,aH,aa];cases c:Oc w d with
  |false=>rfl
  |true =>
   rw[ag rfl,aH,aa];simp only[ai];have tail:∀x:ah×Int,Good x.1->_:=fun x p=>aFf h.w p
   rw[ov h.w]at tail;simp only[ai]at tail;unfold aby
   by_cases i:d.1=2
   .have a:d.2.1∈aM w:=by rw[CI (fun a=>by have:=fp.1 a;omega) (by omega)]at c;exact k4 c
    obtain⟨e,f⟩:=fm a;rw[bg.2 i,ae,ag i,avD h e f,ai];exact tail _ (aB2 h e f).aAh
   .rw[bQ.2 i,aa,af i];by_cases b:He d=true
    .have k:eF 0 (aj ((w.2.2.2.1.length:Int)-1)) d.2.1=true:=by rw[I6 b]at c;exact c
     have m:=QB h k;have l:=aiI h j (fun _=>m);have q:Good (aez w d).1:=XB h (fun _=>m) (fun a=>absurd b a);rw[ag (.inl b),l,ai];have fin:=tail _ q;by_cases n:d.1=3
     .rw[bg.2 n,ae];exact fin
     .rw[bQ.2 n,aa];by_cases o:d.1=4
      .rw[bg.2 o,ae];exact fin
      .have r:d.1=5:=by have:=fp.1 b;omega
       rw[bQ.2 o,aa,bg.2 r,ae];exact fin
    .have v:¬(d.1=3\/d.1=4\/d.1=5):=fun a=>b (fp.2 a)
     rw[bQ.2 (show d.1≠3 by omega),aa,bQ.2 (show d.1≠4 by omega),aa,bQ.2 (show d.1≠5 by omega),aa];by_cases g:d.1=10
     .have k:eF 0 (aj (w.1.1-1)) d.2.1=true:=by rw[ag3 b g]at c;exact c
      have l:=aiI h j (fun a=>absurd (fp.2 a) b);rw[bg.2 g,ae,ag (.inr g),l,ai];exact tail _ (XB h (fun a=>absurd a b) (fun _=>k))
     .have a:d.2.1∈aM w:=by rw[CI b g]at c;exact k4 c
      obtain⟨e,f⟩:=fm a;obtain⟨s,y⟩:=h.rep e f;rw[bQ.2 g,aa,af (fun a=>a.elim b g),k2 e (by omega),ad,II e f,ax0 s j,ai,ad];exact tail (ag4 true w d) (h.ag4 true e f).aAh
def kX (w:ah)(d:cC):ah:=if (doI w d).2=0 then (doI w d).1 else w
def aB3 {w:ah}(h:aK w)(d:cC):aK (kX w d):=by
 unfold kX;split
 .rename_i a;unfold doI at a ⊢;cases l:eF 1 10 d.1 with
  |false=>rw[l,af (by decide)]at a;exact absurd (show(1:Int)=0 from a) (by decide)
  |true =>
   rw[l,ag rfl]at a;rw[ag rfl];cases c:Oc w d with
   |false=>rw[c,af (by decide)]at a;exact absurd (show(2:Int)=0 from a) (by decide)
   |true =>
    rw[c,ag rfl]at a;rw[ag rfl];have o:Good (aby w d).1:=by
     unfold aby
     by_cases m:d.1=2
     .have b:d.2.1∈aM w:=by rw[CI (fun b=>by have:=fp.1 b;omega) (by omega)]at c;exact k4 c
      obtain⟨g,i⟩:=fm b;rw[ag m];exact(aB2 h g i).aAh
     .rw[af m];by_cases e:He d=true
      .have j:eF 0 (aj ((w.2.2.2.1.length:Int)-1)) d.2.1=true:=by rw[I6 e]at c;exact c
       rw[ag (.inl e)];exact XB h (fun _=>QB h j) (fun b=>absurd e b)
      .by_cases f:d.1=10
       .have j:eF 0 (aj (w.1.1-1)) d.2.1=true:=by rw[ag3 e f]at c;exact c
        rw[ag (.inr f)];exact XB h (fun b=>absurd b e) (fun _=>j)
       .have b:d.2.1∈aM w:=by rw[CI e f]at c;exact k4 c
        obtain⟨g,i⟩:=fm b;rw[af (fun b=>b.elim e f)];exact(h.ag4 true g i).aAh
    unfold apq at a ⊢;by_cases k:(aby w d).2=0
    .rw[ag k]at a ⊢;cases n:jC (aby w d).1 with
     |false=>rw[n,af (by decide)]at a;exact absurd (show(4:Int)=0 from a) (by decide)
     |true=>rw[ag rfl];exact o.2 n
    .rw[af k]at a;exact absurd a k
 .exact h
def aeA (w:ah)(x:ah×Int):ah×Int×ah:=if x.2=0 then (x.1,0,El) else (El,x.2,w)
def wW (w x:ah):aeA w (x,0)=(x,0,El):=ag rfl
def Fo (w y:ah){k:Int}(h:k≠0):aeA w (y,k)=(El,k,w):=af h
def aIr (w:ah)(a:Int):ah×Int:=(eR w a (Ob w.1 (bU w a)).1,(Ob w.1 (bU w a)).2)
def aAj {w:ah}(h:aK w){a:Int}(c:0<=a)(e:a<w.2.2.1.length):Mg F0 w a=some (aeA w (aIr w a)):=by
 obtain⟨b,l⟩:=h.rep c e;rw[anb,k2 c (by omega),ad,II c e,aBY b,ai,ad,dM b.bt,ai];unfold aIr Ob;cases g:(ask w.1 (bU w a)).2 with
 |false=>rfl
 |true =>
  obtain⟨_,f,_,_⟩:=aE5 g;obtain⟨i,j⟩:=I4 f;have k:y7 F0 w.1 ((bU w a).1,(bU w a).2.1,(bU w a).2.1,(bU w a).2.2.2) (1,0,(ask w.1 (bU w a)).1,(0,ak,[]),(0,ak,[]),0,0,0,0,0)=some ((aey w.1 (bU w a)).1,(aey w.1 (bU w a)).2,()):=axL b.Bc (abo i j);dsimp only;rw[k,ai,ZZ (aAc b) f,ai,aH,aa,ag rfl];cases (aey w.1 (bU w a)).2 with
  |false=>rw[af (fun d=>by cases d.1)];rfl
  |true =>
   cases (dV w.1 (aey w.1 (bU w a)).1 (ask w.1 (bU w a)).1).2 with
   |false=>rw[af (fun d=>by cases d.2)];rfl
   |true =>
    rw[ag ⟨rfl,rfl⟩,aH,aa,aa,ad];rfl
def aFg (w:ah)(a:Int):ah×Int:=(eR w a (asy w.1 (bU w a)).1,(asy w.1 (bU w a)).2)
def ax4 {w:ah}(h:aK w){a:Int}(b:0<=a)(d:a<w.2.2.1.length):HX F0 w a=some (aeA w (aFg w a)):=by
 obtain⟨c,l⟩:=h.rep b d;have e:=c.f.l.t;rw[ajR,k2 b (by omega),ad,II b d,aF (by omega) (by omega)];unfold aFg asy;generalize o:bU w a=r at c e;have key:∀(k n:Nat),k<=r.2.2.2.2.2.1.length->k<n ->
   zJ F0 (rQ F0) n (rP a ((k:Int)-1) w.1.1 w.1.2 w.1.1 w.1.2 0 0 r.1 r.2.1 r.2.2.1 r.2.2.2.1.1 r.2.2.2.1.2.1 r.2.2.2.1.2.2.1.1 r.2.2.2.1.2.2.1.2.1 r.2.2.2.1.2.2.1.2.2 r.2.2.2.1.2.2.2 r.2.2.2.2.1 r.2.2.2.2.2.1 r.2.2.2.2.2.2.1.1 r.2.2.2.2.2.2.1.2 r.2.2.2.2.2.2.2 w.2.1 w.2.2.1 w.2.2.2.1 w.2.2.2.2 [] [] [] [])
    = some (aeA w (eR w a (ml w.1 r k).1,(ml w.1 r k).2)):=by
  intro k
  induction k with
  |zero =>
   intro n f g;obtain⟨n,rfl⟩:∃m,n=m+1:=⟨n-1,by omega⟩;rw[GJ,aL (show ¬((0:Nat):Int)-1>=0 by omega),aa,aaG];rfl
  |succ k i =>
   intro n f g;obtain⟨n,rfl⟩:∃m,n=m+1:=⟨n-1,by omega⟩;have hk':k<r.2.2.2.2.2.1.length:=by omega
   have j:=aDm c (r.2.2.2.2.2.1[k]).1 (c.l.tq _ (b2 hk')).1 true;rw[GJ,show((k+1:Nat):Int)-1=(k:Int) by omega,aI (show(k:Int)>=0 by omega),ae,ao hk',ad,ad,ad,a8 hk',Ml,k2 b (by omega)];unfold ml;rw[aV hk',show((r.2.2.2.2.2.1[k]).2.1.toList==ak.toList)=dd (r.2.2.2.2.2.1[k]).2.1 from rfl];cases p:dd (r.2.2.2.2.2.1[k]).2.1 with
   |true =>
    rw[ag rfl,ae,aF (by omega) (by omega)];exact i n (by omega) (by omega)
   |false =>
    rw[af (by decide),aa];refine BD (oF (fun x=>Option.bind x _) j) ?_;rw[ai];cases (ez w.1 r (r.2.2.2.2.2.1[k]).1 (r.2.2.2.2.2.1[k]).2.1 true).2 with
    |false=>rfl
    |true =>
     rw[ag rfl,ag rfl];dsimp only;rw[aH,aa,ad,Ml];rfl
 exact key r.2.2.2.2.2.1.length F0.n (bf _) (by rw[bH];omega)
def aFh {w:ah}{a:Int}(r:ar)(list:List gQ):mj (eR w a r) a list=eR (mj w a list) a r:=by
 have e:aM (eR w a r)=aM w:=by unfold aM eR;dsimp only;rw[Eo]
 unfold mj;rw[e];split<;>rfl
def ax5 (w:ah)(a:Int):ah×Int:=if w.2.2.2.1.length+(a6 w a).length<=60/\w.2.2.2.2.length+(a6 w a).length<=300 then (Bb (kW w a) (a6 w a),0) else (w,4)
def ax6 {w:ah}(h:aK w){a:Int}(b:0<=a)(d:a<w.2.2.1.length):HW F0 w a=some (aeA w (ax5 w a)):=by
 obtain⟨c,k⟩:=h.rep b d;have q:(a6 w a).length<=30:=c.f.n;have f:∀p∈a6 w a,fT p.2:=c.aHS;have r:=h.nl;have s:=h.sl;have l:=axJ c;have g:=h.eR b c.NC k;have m:J6 F0 (w.1,w.2.1,w.2.2.1.set a.toNat (NC (bU w a)),w.2.2.2) a (a6 w a)=some (kW w a,()):=by have:=aDr g.w g.sl a (list:=a6 w a) (by omega) f;rw[aFh]at this;exact this
 have o:=h.kW b d;rw[ajP,k2 b (by omega),ad,II b d,l,ai];dsimp only;rw[show(bU w a).2.2.2.2.2.2.2=a6 w a from rfl,aF (n:=(w.2.2.2.1.length:Int)+(a6 w a).length) (by omega) (by omega),aF (n:=(w.2.2.2.2.length:Int)+(a6 w a).length) (by omega) (by omega),ad,m,ai,aiG o.nl (by omega) f,ai];unfold ax5;by_cases i:w.2.2.2.1.length+(a6 w a).length<=60
 .rw[aL (show ¬(w.2.2.2.1.length:Int)+(a6 w a).length>60 by omega),aa];by_cases j:w.2.2.2.2.length+(a6 w a).length<=300
  .rw[aL (show ¬(w.2.2.2.2.length:Int)+(a6 w a).length>300 by omega),aa,ag ⟨i,j⟩,wW];rfl
  .rw[aI (show(w.2.2.2.2.length:Int)+(a6 w a).length>300 by omega),ae,af (fun e=>j e.2),Fo _ _ (by decide)];rfl
 .rw[aI (show(w.2.2.2.1.length:Int)+(a6 w a).length>60 by omega),ae,af (fun e=>i e.1),Fo _ _ (by decide)];rfl
def aFi (w:ah)(d:cC):ah×Int :=
 if eF 0 (aj ((w.2.2.2.1.length:Int)-1)) d.2.1=true then
  if d.1=5 then (if w.2.2.2.1.length<60 then (WT w (w.2.2.2.1++[cE w d.2.1]),0) else (w,4))
  else if d.1=3/\(cE w d.2.1).1 ∉ w.2.1 then (eR (Hd w d.2.1) (cE w d.2.1).1 (WU false w (cE w d.2.1)),0) else (Hd w d.2.1,0)
 else (w,2)
def aG5 {imp:Bool}{c:Int×Int}{r:ar}{m:bW}(h:(CG imp c r m).2=false):(CG imp c r m).1=r:=by
 unfold CG at h ⊢;split
 .rename_i a;rw[ag a]at h;cases h
 .rfl
def aFj {w:ah}{a:Int}(b:0<=a)(c:a<w.2.2.1.length):w.2.2.1.set a.toNat (bU w a)=w.2.2.1:=by unfold bU;rw[aV (show a.toNat<w.2.2.1.length by omega)];exact ayD _
def aG6 {w:ah}{a:Int}(c:0<=a)(e:a<w.2.2.2.1.length)(d:kV):aN w.2.2.2.1 a d=cE w a:=by
 have b:a.toNat<w.2.2.2.1.length:=by omega
 unfold cE;rw[aV b];exact aV b d
def aAk {w:ah}(h:aK w)(d:cC):wG F0 w d=some (aeA w (aFi w d)):=by
 have t:=h.nl;have u:=h.liars;have v:=h.le7;rw[am1,cO,ai];unfold aFi;cases l:eF 0 (aj ((w.2.2.2.1.length:Int)-1)) d.2.1 with
 |false=>rw[af (by decide),Fo _ _ (by decide)];rfl
 |true =>
  obtain⟨i,j⟩:=QB h l;have b:=h.aG4 i j;obtain⟨m,x⟩:=ax2 b.2.1;obtain⟨t0,t1⟩:=h.aAg b.2.2;obtain⟨n,hid⟩:=h.rep t0 t1;have o:aj (d.2.1+1)=d.2.1+1:=aF (by omega) (by omega);have p:(d.2.1+1).toNat=d.2.1.toNat+1:=by omega
  have q:([]++w.2.2.2.1.take d.2.1.toNat)++(w.2.2.2.1.take (w.2.2.2.1.length:Int).toNat).drop (d.2.1+1).toNat=abw w.2.2.2.1 d.2.1.toNat:=by rw[gJ,k5,p];rfl
  have y:(w.2.2.2.1.take d.2.1.toNat).length<=60:=by rw[bC];omega
  have z:((w.2.2.2.1.take (w.2.2.2.1.length:Int).toNat).drop (d.2.1+1).toNat).length<=60:=by rw[bc,bC];omega
  have r:okT d.2.1 (w.2.2.2.1.length:Int)=true:=by simp[okT];omega
  rw[ag rfl,aH,aa,k2 i j,ad,aG6 i j,ax (a:=0) (by omega) (by omega) (by have:=b.1.1;omega),ad,ax (by omega) (by omega) (by first|omega|(simp only[aG,aW,bj];omega)|(rw[bc,bC];omega)),ad,r,ad,o,agM (by omega) (by omega) (by omega),ad,ax (a:=0) (by omega) (by omega) (by omega),ad,ax (by omega) (by omega) (by rw[Bi];omega),ad,
   q,fg (by omega),ai,asf b.1,ai,k2 t0 t1,ad]
  dsimp only;rw[II t0 t1,axR n m,ai,ad];by_cases c:d.1=5
  .rw[bg.2 c,ae,ag c];by_cases g:w.2.2.2.1.length<60
   .rw[aL (show ¬(w.2.2.2.1.length:Int)>=60 by omega),aa,ag g,wW];rfl
   .rw[aI (show(w.2.2.2.1.length:Int)>=60 by omega),ae,af g,Fo _ _ (by decide)];rfl
  .rw[bQ.2 c,aa,af c];by_cases e:d.1=3
   .rw[bg.2 e,ae];by_cases f:(cE w d.2.1).1∈w.2.1
    .rw[aI f,aH,aa,af (fun k=>k.2 f),wW];rfl
    .rw[aL f,ea,ae,ag ⟨e,f⟩,wW];unfold WU;cases s:(CG false w.1 (bU w (cE w d.2.1).1) (mv w.1 (cE w d.2.1).2).1).2 with
     |true=>rfl
     |false =>
      rw[aG5 s];have:=aFj t0 t1;show some (((w.1,w.2.1,w.2.2.1,abw w.2.2.2.1 d.2.1.toNat,w.2.2.2.2):ah),(0:Int),_)=some ((w.1,w.2.1,w.2.2.1.set _ _,abw w.2.2.2.1 d.2.1.toNat,w.2.2.2.2),0,El);rw[this];rfl
   .rw[bQ.2 e,aa,af (fun k=>e k.1),wW];rfl
def aFk (w:ah)(d:cC):ah×Int :=
 if eF 0 (aj (w.1.1-1)) d.2.1=true then (if Ge w.1 w.2.1 w.2.2.2.2 d.2.2.2=true then (if w.2.2.2.1.length<60 then (Bb w [(d.2.1,d.2.2.2)],0) else (w,4)) else (w,5)) else (w,2)
def aAl {w:ah}(h:aK w){d:cC}(a:fT d.2.2.2):Me F0 w d=some (aeA w (aFk w d)):=by
 have b:=h.nl;have e:=h.liars;have f:=h.sl;rw[am8,cO,ai,az9 (by omega) (by omega) a,ai,aiG b (by simp) (fun p c=>by rw[fA.1 c];exact a),ai];unfold aFk;cases eF 0 (aj (w.1.1-1)) d.2.1 with
 |false=>rfl
 |true =>
  cases Ge w.1 w.2.1 w.2.2.2.2 d.2.2.2 with
  |false=>rfl
  |true =>
   by_cases g:w.2.2.2.1.length<60
   .rw[aL (show ¬(w.2.2.2.1.length:Int)>=60 by omega),ag g];rfl
   .rw[aI (show(w.2.2.2.1.length:Int)>=60 by omega),af g];rfl
def aFl (w:ah)(d:cC):ah×Int:=if d.1=2 then ax5 w d.2.1 else ag4 false w d
def asD {w:ah}{x:ah×Int}:((some (aeA w x):Option (ah×Int×ah)).bind fun r=>br (r.2.1==0) (some (r.1,(0:Int),El)) (br (r.2.1==0) none (some (El,r.2.1,w.1,r.2.2.2))))=some (aeA w x):=by
 rw[ai];unfold aeA;by_cases h:x.2=0
 .rw[ag h];rfl
 .rw[af h];dsimp only;rw[bQ.2 h,aa,aa]
def aAm {w:ah}(h:aK w){d:cC}(o:fT d.2.2.2)(a:0<=d.2.1)(c:d.2.1<w.2.2.1.length):Mp F0 w d=some (aeA w (aFl w d)):=by
 obtain⟨b,t⟩:=h.rep a c;have p:Pr F0 w.1 ((bU w d.2.1).1,(bU w d.2.1).2.1,(bU w d.2.1).2.2.1,(bU w d.2.1).2.2.2.1,(bU w d.2.1).2.2.2.2.1,(bU w d.2.1).2.2.2.2.2.1,gG (bU w d.2.1).2.2.2.2.2.2.1 d.2.2.1,(bU w d.2.1).2.2.2.2.2.2.2)=some (aiH w.1 (bU w d.2.1) d.2.2.1,()):=aE0 (b.WR d.2.2.1).bt (b.WR d.2.2.1).ok;have e:=fun x:ah×Int=>asD (w:=w) (x:=x)
 unfold El at e;rw[ank,k2 a (by omega),ad,aAj h a c,ax6 h a c,ax4 h a c,II a c,dM b.bt,azU b.bt.d.1,aE6 b,axR b o];have q:=e (aIr w d.2.1);have r:=e (ax5 w d.2.1);have s:=e (aFg w d.2.1);unfold aFl ag4 RP;by_cases f:d.1=1
 .rw[bg.2 f,ae,af (by omega),ag f];exact q
 .rw[bQ.2 f,aa,af f];by_cases g:d.1=2
  .rw[bg.2 g,ae,ag g];exact r
  .rw[bQ.2 g,aa,af g];by_cases i:d.1=6
   .rw[bg.2 i,ae,ag i];exact s
   .rw[bQ.2 i,aa,af i];by_cases j:d.1=8
    .rw[bg.2 j,ae,af (by omega),ag j,wW];simp only[ai,p,ad];rfl
    .rw[bQ.2 j,aa];by_cases l:d.1=7
     .rw[bg.2 l,ae,ag l,ai];cases (wV w.1 (bU w d.2.1)).2 with
      |false=>rw[af (by decide),Fo _ _ (k:=3) (show(3:Int)≠0 by decide)];rfl
      |true=>rw[ag rfl,wW,ad];rfl
     .rw[bQ.2 l,aa,af l,af j,ai];unfold akH;cases (CG false w.1 (bU w d.2.1) d.2.2.2).2 with
      |false=>rw[af (fun n=>by cases n.1),Fo _ _ (k:=3) (show(3:Int)≠0 by decide)];rfl
      |true =>
       by_cases m:d.2.2.2.1=4
       .rw[ag ⟨rfl,m⟩,wW,aH,aa,show(d.2.2.2.1 != 4)=false by simp[m],aa,ad];rfl
       .rw[af (fun n=>m n.2),Fo _ _ (k:=3) (show(3:Int)≠0 by decide),aH,aa,show(d.2.2.2.1 != 4)=true by simp[m],ae];rfl
def aAn (w:ah)(d:cC):ah×Int:=if He d=true then aFi w d else if d.1=10 then aFk w d else if d.2.1∈aM w then aFl w d else (w,2)
def aAo {w:ah}(h:aK w){d:cC}(g:fT d.2.2.2):Mq F0 w d=some (aeA w (aAn w d)):=by
 have hlen:=Fm w;have p:=h.le7;have b:=fun x:ah×Int=>asD (w:=w) (x:=x)
 unfold El at b;have f:=b (aFi w d);have k:=b (aFk w d);have l:=b (aFl w d);rw[anm,aAk h,aAl h g,aoG h.w.l];unfold aAn;by_cases c:He d=true
 .rw[ag c];by_cases i:d.1=3
  .rw[bg.2 i,ae];exact f
  .rw[bQ.2 i,aa];by_cases j:d.1=4
   .rw[bg.2 j,ae];exact f
   .have m:d.1=5:=by have:=fp.1 c;omega
    rw[bQ.2 j,aa,bg.2 m,ae];exact f
 .have q:¬(d.1=3\/d.1=4\/d.1=5):=fun a=>c (fp.2 a)
  rw[af c,bQ.2 (show d.1≠3 by omega),aa,bQ.2 (show d.1≠4 by omega),aa,bQ.2 (show d.1≠5 by omega),aa];by_cases e:d.1=10
  .rw[bg.2 e,ae,ag e];exact k
  .rw[bQ.2 e,aa,af e,ai,fg (by dsimp only;omega),ai];by_cases a:d.2.1∈aM w
   .obtain⟨n,o⟩:=fm a;rw[aI a,aH,aa,ag a,aAm h g n o];exact l
   .rw[aL a,ea,ae,af a,Fo _ _ (by decide)];rfl
def ax7 (w:ah)(d:cC):ah:=if (aAn w d).2=0 then (aAn w d).1 else w
def ax8 {w:ah}(h:aK w){d:cC}(b:fT d.2.2.2):HY F0 w d=some ((ax7 w d,()),()):=by
 rw[ajV,aAo h b,ai];unfold ax7 aeA;by_cases a:(aAn w d).2=0
 .rw[ag a,ag a];rfl
 .rw[af a,af a];dsimp only;rw[bQ.2 a,aa,show((aAn w d).2 != 0)=true by simp[a],ae]
def aK.aKg {w:ah}(h:aK w)(d:cC):aK (ax7 w d):=by
 unfold ax7;split
 .rename_i f;clear f;unfold aAn;split
  .unfold aFi;split
   .rename_i i;obtain⟨b,c⟩:=QB h i;have e:=h.aG4 b c;split
    .split
     .rename_i g;refine h.WT (by rw[aG,dt];omega) fun x a=>?_
      rcases gK.1 a with a|a
      .exact h.nb x a
      .rw[fA.1 a];exact e
     .exact h
    .split
     .obtain⟨t0,t1⟩:=h.aAg e.2.2;obtain⟨j,hid⟩:=h.rep t0 t1;exact(h.Hd d.2.1).eR t0 (j.heard false _) (by unfold WU;rw[avA];exact hid)
     .exact h.Hd _
   .exact h
  .split
   .unfold aFk;split
    .split
     .split
      .exact h.send _
      .exact h
     .exact h
    .exact h
   .split
    .rename_i k;obtain⟨b,c⟩:=fm k;unfold aFl;split
     .unfold ax5;split
      .exact(h.kW b c).send _
      .exact h
     .exact h.ag4 false b c
    .exact h
 .exact h
def Gf (i:Int):ar:=(i,1,0,jD,[],[],([],0),[])
def RQ (c:Int×Int)(liars:List Int):ah:=(c,liars,(List.range c.1.toNat).map fun i:Nat=>Gf (i:Int),[],[])
def apr {c:Int×Int}(a:bw c=true){i:Int}(e:0<=i)(f:i<c.1):aX c (Gf i):=by have d:=b4 a;refine⟨⟨a,?_,rfl,rfl,abv a,rfl,rfl,rfl,aO _,fun x b=>by cases b⟩,fun x b=>by cases b⟩;show eF 0 (aj (c.1-1)) i=true;rw[Wt d.1 d.2.1];simp only[eF,aA,bR];omega
def aFm {c:Int×Int}(a:bw c=true){liars:List Int}(d:jI c.1 liars=true)(e:(liars.length:Int)<=vY c):aK (RQ c liars):=by
 have l:=b4 a;refine⟨a,d,e,?_,fun r f=>?_,fun k g=>?_,aO _,(fun x b=>by cases b),aO _,(fun x b=>by cases b)⟩
 .show(((List.range c.1.toNat).map fun i:Nat=>Gf (i:Int)).length:Int)=c.1;rw[s5,Yd];omega
 .obtain⟨i,h,rfl⟩:=Ep.1 f;have:=fV.1 h;exact apr a (by omega) (by omega)
 .have hk':k<((List.range c.1.toNat).map fun i:Nat=>Gf (i:Int)).length:=g;have j:(((List.range c.1.toNat).map fun i:Nat=>Gf (i:Int))[k]'hk').1=(k:Int):=by rw[List.getElem_map,List.getElem_range];rfl
  exact j
def aAp {c:Int×Int}(b:bw c=true){i:Int}(d:0<=i)(e:i<c.1):LF F0 c i=some (Gf i,true,()):=by
 have a:=apr b d e;have f:dp F0 c (i,1,0,(0,0,(0,ak,[]),ak),[],[],([],0),[])=some (true,()):=by have:=gR a.l c;rw[a.ok]at this;exact this
 rw[ams,f];rfl
def ax9 {c:Int×Int}(b:bw c=true){i:Int}(d:0<=i)(e:i<c.1):MA F0 c i=some (Gf i,true,()):=by
 have a:=apr b d e;have f:cq F0 c (i,1,0,(0,0,(0,ak,[]),ak),[],[],([],0),[])=some (true,()):=by have:=dJ a.l c;rw[a.ok]at this;exact this
 rw[anC,f];rfl
def RR {c:Int×Int}{liars:List Int}(h:aK (RQ c liars)):kM F0 c liars=some (RQ c liars,true,()):=by
 have b:=b4 h.c;have d:bw c=true:=h.c;have f:liars.length<=7:=h.liars;have g:(c.1.toNat:Int)=c.1:=Oe (by have:4<=c.1:=b.1;omega);have j:c.1.toNat<=7:=by have:c.1<=7:=b.2.1;omega
 rw[afd,ax (a:=0) (by omega) (by omega) (by omega),ad];refine azP (fun n k xs=>ud F0 (yp F0) n (oK k c.1 c.2 0 0 c.1 c.2 [] [] [] [] ([]++liars) xs [] [])) (List.range c.1.toNat) (fun i:Nat=>Gf (i:Int)) _ (fun n k xs e l=>?_) (fun n=>?_) _ (by rw[bH,Yd];omega)
 .have hk':k<c.1.toNat:=by rw[Yd]at e;exact e
  rw[EA,aI (show(k:Int)<c.1 by omega),ae,show((c.1,c.2):Int×Int)=c from rfl,hV,ai,d,ae,aAp d (by omega) (by omega),ai,ax (by omega) (by omega) (by first|omega|(simp only[aG,aW,bj];omega)|(rw[bc,bC];omega)),ad,al (by omega),List.getElem_range]
 .have cW:yo F0 ((c.1,c.2),[]++liars,((List.range c.1.toNat).map fun i:Nat=>Gf (i:Int),([],[])))=some (true,()):=by have:=axd h.w.l;rw[h.ok]at this;exact this
  rw[EA,Yd,aL (show ¬(c.1.toNat:Int)<c.1 by omega),aa,XK,cW];rfl
def arj {c:Int×Int}{liars:List Int}(h:aK (RQ c liars)):tp F0 c liars=some (RQ c liars,true,()):=by
 have b:=b4 h.c;have a:bw c=true:=h.c;have e:liars.length<=7:=h.liars;have f:(c.1.toNat:Int)=c.1:=Oe (by have:4<=c.1:=b.1;omega);have g:c.1.toNat<=7:=by have:c.1<=7:=b.2.1;omega
 rw[afV,ns (by omega),ai];refine azP (fun n k xs=>u5 F0 (Aq F0) n (o7 k c.1 c.2 0 0 c.1 c.2 [] [] [] [] liars xs [] [])) (List.range c.1.toNat) (fun i:Nat=>Gf (i:Int)) _ (fun n k xs d j=>?_) (fun n=>?_) _ (by rw[bH,Yd];omega)
 .have hk':k<c.1.toNat:=by rw[Yd]at d;exact d
  rw[EX,show((c.1,c.2):Int×Int)=c from rfl,fu,ai,a,ae,aI (show(k:Int)<c.1 by omega),ae,ax9 a (by omega) (by omega),ai,ax (by omega) (by omega) (by first|omega|(simp only[aG,aW,bj];omega)|(rw[bc,bC];omega)),ad,al (by omega),List.getElem_range]
 .have cW:cK F0 ((c.1,c.2),liars,((List.range c.1.toNat).map fun i:Nat=>Gf (i:Int),([],[])))=some (true,()):=by have:=sE h.w.l;rw[h.ok]at this;exact this
  rw[EX,show((c.1,c.2):Int×Int)=c from rfl,fu,ai,a,ae,Yd,aL (show ¬(c.1.toNat:Int)<c.1 by omega),aa,XW,cW];rfl
def New (w:ah):Prop:=∃c liars,w=RQ c liars/\aK (RQ c liars)
def New.g {w:ah}(h:New w):aK w:=by obtain⟨c,l,rfl,a⟩:=h;exact a
def aKh (n:Int):jI n []=true:=rfl
def aKi {n x:Int}(a:0<=x)(b:x<n):jI n [x]=true:=by simp[jI,a,b]
def aAq {c:Int×Int}(h:bw c=true):1<=vY c:=by have a:=b4 h;unfold vY;rw[ag h];exact(awS a.1 a.2.1).1
def aFn {c:wY}(h:Rz c):Dr (U:=ah) (oL F0 c) New:=by
 unfold Dr;rw[UU];refine Dr.bind (abe h (l:=[4,4,4,5,7]) (by decide) (by decide)) fun x g i=>Dr.bind (gF i (n:=3) (by omega) (by omega)) fun y d j=>Dr.bind (ak0 j (n:=3) (by omega) (by omega)) fun z o e=>?_
 have p:x.1.1=4\/x.1.1=5\/x.1.1=7:=by simp only[cN,Z2,or_false]at g;omega
 have q:=d.1;have r:=d.2;have b:bw (x.1.1,aj (1+y.1.1))=true:=by rw[aF (by omega) (by omega)];simp only[bw,eF,aA,bR];omega
 have k:=aAq b;refine Gd.br (fun _=>?_) fun _=>?_
 .refine Dr.bind (gF e (n:=x.1.1) (by omega) (by omega)) fun v f m=>?_
  have a:aK (RQ (x.1.1,aj (1+y.1.1)) [v.1.1]):=aFm b (aKi f.1 f.2) (by simpa using k);exact Gd.let (RR a) (Gd.ret ⟨⟨_,_,rfl,a⟩,m⟩)
 .have a:aK (RQ (x.1.1,aj (1+y.1.1)) []):=aFm b (aKh _) (by simp;omega);exact Gd.let (RR a) (Gd.ret ⟨⟨_,_,rfl,a⟩,e⟩)
def aAr {a b:Int}{V:Type}{f:Int×Unit->Option V}{P:V->Prop}(h:Gd (f (Gc a b,())) P):Gd ((bI F0 a b).bind f) P:=Gd.let (Xv a b) h
def aFo {a b:Int}{V:Type}{f:Int×Unit->Option V}{P:V->Prop}(h:Gd (f (pw a b,())) P):Gd ((dC F0 a b).bind f) P:=Gd.let (CE a b) h
def asE {up:ByteArray}(d:up.size<=6000){view:Int}(a:I64 view){l:List ej}(e:l.length<=10){V:Type}{f:ByteArray×Unit->Option V}{P:V->Prop}(h:∀b:ByteArray,b.size<=7000->Gd (f (b,())) P):Gd ((kf F0 up view l).bind f) P:=by have c:=aoO (up:=up.data.toList) (by show up.size<=_;omega) a (l:=l) (by omega);have g:=asn (up:=up.data.toList) a l;refine Gd.let c (h _ ?_);rw[bB];have:up.data.toList.length=up.size:=rfl;omega
def abz {w:ah}(h:aK w)(view:Int)(name:ByteArray)(d:name.size<=1048576){c:wY}(e:Rz c) :
  Gd (cJ F0 (ei F0) F0.n (cr view name 0 c.1 c.2.1 c.2.2 w.1.1 w.1.2 w.2.1 w.2.2.1 w.2.2.2.1 w.2.2.2.2 0 0 ak 0 ak 0 ak 0 ak 0 0 0 0 0 ([]++w.2.1) [] [] [])) fun z:DrT bW=>(∃q:b1,z.1.1=A9 q/\tK q)/\Rz z.2.1:=by
 have g:=h.sl;have j:=h.liars;refine akY (fun n i (z:List Int)=>cJ F0 (ei F0) n (cr view name i c.1 c.2.1 c.2.2 w.1.1 w.1.2 w.2.1 w.2.2.1 w.2.2.2.1 w.2.2.2.2 0 0 ak 0 ak 0 ak 0 ak 0 0 0 0 0 z [] [] [])) w.2.2.2.2.length (fun k z=>z.length<=7+k) _ (fun n k z b f a=>?_) (fun n z f=>?_) F0.n 0 ([]++w.2.1) (aO _) (by show w.2.1.length<=_;omega) (by rw[bH];omega)
 .rw[th,aP b,ae,ao b,ad,ad,ad,al (by omega)];refine Gd.br (fun _=>Gd.br (fun _=>Gd.let (aa4 (by omega) _) ?_) fun _=>?_) fun _=>?_
  .exact a _ (by have:=aop z (aN w.2.2.2.2 (k:Int) Ry).2.2;exact bZ (aop _ _) (by omega))
  .exact a _ (by omega)
  .exact a _ (by omega)
 .rw[th,aE,aa,OX];exact Gd.ret ⟨⟨(view,name,z),rfl,d,by show z.length<=_;omega⟩,e⟩
def aFp {c:wY}(k:Rz c){w:ah}(h:aK w):Dr (U:=bW) (oT F0 c w) fun m=>∃q:b1,m=A9 q/\tK q:=by
 have t:=h.sl;have u:=h.liars;unfold Dr;rw[U7];refine Dr.bind (gF k (n:=4) (by omega) (by omega)) fun x e f=>?_
 have v:=e.1;have A:=e.2;refine asE (aO _) (by rw[aF (by omega) (by omega)];exact⟨by omega,by omega⟩) (aO _) fun b l=>?_
 refine Gd.ck (ax (a:=0) (by omega) (by omega) (by omega)) (Gd.br (fun hlen=>?_) fun _=>abz h _ _ (by show b.size<=_;omega) f);have B:0<w.2.2.2.2.length:=by have:=k4 hlen;omega
 refine aAr ?_;have m0:0<Gc (w.2.2.2.2.length:Int) 8:=by unfold Gc;split<;>omega
 have m1:Gc (w.2.2.2.2.length:Int) 8<=w.2.2.2.2.length:=by unfold Gc;split<;>omega
 refine Dr.bind (gF f (n:=Gc (w.2.2.2.2.length:Int) 8) m0 (by omega)) fun y g o=>?_
 have C:=g.1;have D:=g.2;have p:aj (aj ((w.2.2.2.2.length:Int)-1)-y.1.1)=((w.2.2.2.2.length-1-y.1.1.toNat:Nat):Int):=by rw[aF (n:=(w.2.2.2.2.length:Int)-1) (by omega) (by omega),aF (by omega) (by omega)];omega
 have d:w.2.2.2.2.length-1-y.1.1.toNat<w.2.2.2.2.length:=by omega
 have i:=h.sb _ (b2 d);have r:=j1 i.2.1;have E:=oq (w.2.2.2.2[w.2.2.2.2.length-1-y.1.1.toNat]).2.1.data.toList;have s:=i.2.2;rw[p];refine Gd.ck (ao d) (Dr.bind (ak0 o (n:=3) (by omega) (by omega)) fun z F j=>?_);rw[a8 d];refine Gd.br (fun _=>Gd.let (adW (bZ r (by omega))) ?_) fun _=>abz h _ _ (by omega) j
 refine asE (up:=upB (w.2.2.2.2[w.2.2.2.2.length-1-y.1.1.toNat]).2.1) (bZ (La _) (by omega)) (by rw[<-s];exact⟨by omega,by omega⟩) (by simp) fun b l=>abz h _ _ (by show b.size<=_;omega) j
def aps {c:Int×Int}{q:b1}{view:Int}{l:List ej}:(ib c q view l).1.1.size<=1048576/\tK (ib c q view l).1.2:=by
 unfold ib;split
 .rename_i a;exact I4 a.1
 .exact⟨aO _,fl⟩
def aFq {w:ah}(h:aK w){q:b1}(b:eN w.1 q=true)(cu:Int){view:Int}(d:0<=view)(e:view<=61){c:wY}(f:Rz c) :
  Gd (bJ F0 (bp F0) F0.n (bo cu view 0 c.1 c.2.1 c.2.2 w.1.1 w.1.2 w.2.1 w.2.2.1 w.2.2.2.1 w.2.2.2.2 0 0 ak 0 ak 0 ak 0 ak 0 0 0 0 0 q.1 q.2.1 [] [] [] q.2.2)) fun z:DrT bW=>fT z.1.1/\Rz z.2.1:=by
 have out:∀v:Int,0<=v->v<=61->Gd (bp F0 (.exit 1) (gy v c.1 c.2.1 c.2.2 w.1.1 w.1.2 w.2.1 w.2.2.1 w.2.2.2.1 w.2.2.2.2 0 0 ak 0 ak 0 ak 0 ak 0 0 0 0 0 q.1 q.2.1 [] [] [] q.2.2)) fun z:DrT bW=>fT z.1.1/\Rz z.2.1:=fun v o p=>by
  rw[TO];refine Dr.bind (asm f) fun x r g=>?_
  have i:=aer (c:=w.1) b (view:=v) ⟨by omega,by omega⟩ (l:=[x.1.1]) (by simp);exact Gd.let i (Gd.ret ⟨abo aps.1 aps.2,g⟩)
 refine akY (fun n k (v:Int)=>bJ F0 (bp F0) n (bo cu v k c.1 c.2.1 c.2.2 w.1.1 w.1.2 w.2.1 w.2.2.1 w.2.2.2.1 w.2.2.2.2 0 0 ak 0 ak 0 ak 0 ak 0 0 0 0 0 q.1 q.2.1 [] [] [] q.2.2)) 7 (fun k v=>0<=v/\v<=61) _ (fun n k v s a j=>?_) (fun n v a=>?_) F0.n 0 view (aO _) ⟨d,e⟩ (by rw[bH];omega)
 .have i0:=a.1;have i1:=a.2;rw[yH,aI (show(k:Int)<7 by omega),ae];refine Gd.br (fun m=>Gd.let (KR _ _) (Gd.br (fun _=>?_) fun _=>out v i0 i1)) fun _=>out v i0 i1
  have t:=k4 m;rw[aF (n:=v+1) (by omega) (by omega),al (by omega)];exact j (v+1) ⟨by omega,by omega⟩
 .rw[yH,aL (show ¬((7:Nat):Int)<7 by omega),aa];exact out v a.1 a.2
def aya {w:ah}(h:aK w){q:b1}(b:eN w.1 q=true)(cu:Int){m:bW}(g:fT m){c:wY}(i:Rz c) :
  Gd ((au F0 c 4).bind fun a=>br (a.1.1==0) (some ((m,()),a.2.1,())) (br (a.1.1==1) ((au F0 a.2.1 2).bind fun f=>(bI F0 (aj ((aj (q.1+1))+f.1.1)) 60).bind fun j=>some (((3,j.1,(ak,0,ak,[]),(0,ak,[]),q,cu,0,0,0,0),()),f.2.1,())) (bJ F0 (bp F0) F0.n (bo cu (aj (q.1+1)) 0 a.2.1.1 a.2.1.2.1 a.2.1.2.2 w.1.1 w.1.2 w.2.1 w.2.2.1 w.2.2.2.1 w.2.2.2.2 0 0 ak 0 ak 0 ak 0 ak 0 0 0 0 0 q.1 q.2.1 [] [] [] q.2.2)))) fun z:DrT bW=>fT z.1.1/\Rz z.2.1:=by
 obtain⟨_,_,l,_⟩:=v8 b;have o:=oq q.2.1.data.toList;have e:aj (q.1+1)=q.1+1:=aF (by omega) (by omega);refine Dr.bind (gF i (n:=4) (by omega) (by omega)) fun x p d=>Gd.br (fun _=>Gd.ret ⟨g,d⟩) fun _=>Gd.br (fun _=>?_) fun _=>?_
 .exact Dr.bind (gF d (n:=2) (by omega) (by omega)) fun y r k=>aAr (Gd.ret ⟨Qv (Oa b) cu,k⟩)
 .rw[e];exact aFq h b cu (by omega) (by omega) d
def ayb {c:Int×Int}(a:bw c=true):eN c b8=true:=by unfold eN X9;simp only[a];rfl
def ayc:HJ F0=some (b8,()):=by rw[ajq];rfl
def aIs {c:wY}(v:Rz c){w:ah}(h:aK w):Dr (U:=bW) (hz F0 c w) fT:=by
 have D:=h.le7;have E:=h.liars;unfold Dr;rw[aaw];refine Dr.bind (aFp v h) fun x A f=>?_
 obtain⟨q,e,o⟩:=A;obtain⟨⟨m,u⟩,⟨F,G⟩⟩:=x;dsimp only at e f ⊢;subst e;have p:=agY o;have cu:∀(Q:b1),eN w.1 Q=true->∀g:wY,Rz g->Gd (br (decide ((w.2.1.length:Int)>0)) ((au F0 g (w.2.1.length:Int)).bind fun i=>ck (bO i.1.1 (w.2.1.length:Int)) ((au F0 i.2.1 4).bind fun a=>br (a.1.1==0) (some ((A9 q,()),a.2.1,())) (br (a.1.1==1) ((au F0 a.2.1 2).bind fun d=>(bI F0 (aj ((aj (Q.1+1))+d.1.1)) 60).bind fun k=>some (((3,k.1,(ak,0,ak,[]),(0,ak,[]),Q,aN w.2.1 i.1.1 0,0,0,0,0),()),d.2.1,())) (bJ F0 (bp F0) F0.n (bo (aN w.2.1 i.1.1 0) (aj (Q.1+1)) 0 a.2.1.1 a.2.1.2.1 a.2.1.2.2 w.1.1 w.1.2 w.2.1 w.2.2.1 w.2.2.2.1 w.2.2.2.2 0 0 ak 0 ak 0 ak 0 ak 0 0 0 0 0 Q.1 Q.2.1 [] [] [] Q.2.2))))) ((au F0 g 4).bind fun a=>br (a.1.1==0) (some ((A9 q,()),a.2.1,())) (br (a.1.1==1) ((au F0 a.2.1 2).bind fun d=>(bI F0 (aj ((aj (Q.1+1))+d.1.1)) 60).bind fun k=>some (((3,k.1,(ak,0,ak,[]),(0,ak,[]),Q,0,0,0,0,0),()),d.2.1,())) (bJ F0 (bp F0) F0.n (bo 0 (aj (Q.1+1)) 0 a.2.1.1 a.2.1.2.1 a.2.1.2.2 w.1.1 w.1.2 w.2.1 w.2.2.1 w.2.2.2.1 w.2.2.2.2 0 0 ak 0 ak 0 ak 0 ak 0 0 0 0 0 Q.1 Q.2.1 [] [] [] Q.2.2))))) fun z:DrT bW=>fT z.1.1/\Rz z.2.1:=fun Q r g s=>by
  refine Gd.br (fun B=>?_) fun _=>aya h r 0 p s
  have:=k4 B;refine Dr.bind (gF s (n:=(w.2.1.length:Int)) (by omega) (by omega)) fun y l j=>Gd.ck (k2 l.1 l.2) (aya h r _ p j)
 refine Gd.let (Ru (q:=q) o w.1) (Gd.br (fun _=>Gd.let ayc (Gd.br (fun _=>?_) fun _=>cu b8 (ayb h.c) _ f)) fun cW=>cu q (by simpa using cW) _ f);refine Dr.bind (ak0 f (n:=2) (by omega) (by omega)) fun y l j=>Gd.br (fun _=>?_) fun _=>cu b8 (ayb h.c) _ j
 refine Dr.bind (gF j (n:=(w.2.2.1.length:Int)) (by omega) (by omega)) fun z b C=>Gd.ck (k2 b.1 b.2) ?_
 have t:=(h.rep b.1 b.2).1;rw[II b.1 b.2];exact Gd.let (wa t.l.s.1.2) (cu _ (cB t.f.s).2.2.1 _ C)
def aJs:bW:=(0,0,(ak,b8),b8,b8,0,pt)
def IJ:fT aJs:=⟨aO _,fl,fl,fl⟩
def aeB (d:cC):Prop:=fT d.2.2.2/\eF 1 10 d.1=true
def ag5 {w:ah}(h:aK w)(a:Int){c:wY}(b:Rz c) :
  Gd (br ((w.2.2.2.1.length:Int)==0) (some (((2,a,0,0,0,(ak,0,ak,[]),(0,ak,[]),(0,ak,[]),0,0,0,0,0),()),c,())) ((bI F0 (w.2.2.2.1.length:Int) 4).bind fun e=>(au F0 c e.1).bind fun d=>some (((3,d.1.1,0,0,0,(ak,0,ak,[]),(0,ak,[]),(0,ak,[]),0,0,0,0,0),()),d.2.1,()))) fun z:DrT cC=>aeB z.1.1/\Rz z.2.1:=by
 refine Gd.br (fun _=>Gd.ret ⟨⟨IJ,by simp[eF]⟩,b⟩) fun f=>aAr ?_
 have i:(w.2.2.2.1.length:Int)≠0:=by simpa using f
 have m0:0<Gc (w.2.2.2.1.length:Int) 4:=by unfold Gc;split<;>omega
 have m1:Gc (w.2.2.2.1.length:Int) 4<=4:=by unfold Gc;split<;>omega
 exact Dr.bind (gF b (n:=Gc (w.2.2.2.1.length:Int) 4) m0 (by omega)) fun y j g=>Gd.ret ⟨⟨IJ,by simp[eF]⟩,g⟩
def aFr {a:Int}{n k:Nat}(b:0<=a)(c:a<n)(d:k<n)(e:n<=7):0<=Int.tmod (aj (a+(k:Int))) (n:Int)/\Int.tmod (aj (a+(k:Int))) (n:Int)<n:=by rw[aF (by omega) (by omega),ak8 (by omega)];exact⟨ahj _ (by omega),ala _ (by omega)⟩
def nz0 {n:Nat}(h:0<n):(!((n:Int)==0))=true:=by simp;omega
def apt {w:ah}(h:aK w){a:Int}(i:0<=a)(j:a<w.2.2.1.length){c:wY}(d:Rz c) :
  Gd (dG F0 (dH F0) F0.n (cU (w.2.2.1.length:Int) a 0 c.1 c.2.1 c.2.2 w.1.1 w.1.2 w.2.1 w.2.2.1 w.2.2.2.1 w.2.2.2.2 0 0 0 0 0 ak 0 ak 0 ak 0 ak 0 0 0 0 0 [] [] [])) fun z:DrT cC=>aeB z.1.1/\Rz z.2.1:=by
 have l:=h.le7;have p:=h.liars;refine akY (fun n k (z:Unit)=>dG F0 (dH F0) n (cU (w.2.2.1.length:Int) a k c.1 c.2.1 c.2.2 w.1.1 w.1.2 w.2.1 w.2.2.1 w.2.2.2.1 w.2.2.2.2 0 0 0 0 0 ak 0 ak 0 ak 0 ak 0 0 0 0 0 [] [] [])) w.2.2.1.length (fun _ _=>True) _ (fun n k z e m f=>?_) (fun n z m=>?_) F0.n 0 () (aO _) trivial (by rw[bH];omega)
 .obtain⟨b,g⟩:=aFr i j e l.2;have o:=(h.rep b g).1;rw[wF,aP e,ae,nz0 (by omega),ad,k2 b (by omega),ad,II b g,ad,ad,TQ,al (by omega)];refine Gd.let (aBY o) (Gd.br (fun _=>?_) fun _=>f () trivial);refine Gd.let (fg (by omega) _) (Gd.br (fun _=>?_) fun _=>f () trivial);exact Gd.ret ⟨⟨IJ,by simp[eF]⟩,d⟩
 .rw[wF,aE,aa,Q2];exact Gd.ret ⟨⟨IJ,by simp[eF]⟩,d⟩
def XC {w:ah}(h:aK w){a:Int}(e:0<=a)(f:a<w.2.2.1.length){c:wY}(b:Rz c) :
  Gd (dE F0 (cT F0) F0.n (cS (w.2.2.1.length:Int) a 0 c.1 c.2.1 c.2.2 w.1.1 w.1.2 w.2.1 w.2.2.1 w.2.2.2.1 w.2.2.2.2 0 0 0 0 0 ak 0 ak 0 ak 0 ak 0 0 0 0 0 [] [] [])) fun z:DrT cC=>aeB z.1.1/\Rz z.2.1:=by
 have g:=h.le7;refine akY (fun n k (z:Unit)=>dE F0 (cT F0) n (cS (w.2.2.1.length:Int) a k c.1 c.2.1 c.2.2 w.1.1 w.1.2 w.2.1 w.2.2.1 w.2.2.2.1 w.2.2.2.2 0 0 0 0 0 ak 0 ak 0 ak 0 ak 0 0 0 0 0 [] [] [])) w.2.2.1.length (fun _ _=>True) _ (fun n k z d i j=>?_) (fun n z i=>?_) F0.n 0 () (aO _) trivial (by rw[bH];omega)
 .obtain⟨l,m⟩:=aFr e f d g.2;rw[wE,aP d,ae,nz0 (by omega),ad,k2 l (by omega),ad,ad,TP,al (by omega)];refine Gd.br (fun _=>?_) fun _=>j () trivial
  exact Gd.ret ⟨⟨IJ,by simp[eF]⟩,b⟩
 .rw[wE,aE,aa,Q1];exact ag5 h a b
def apu {w:ah}(h:aK w)(a:Int){c:wY}(b:Rz c) :
  Gd (br (decide ((w.2.1.length:Int)>0)) ((hz F0 c w).bind fun d=>some (((10,a,0,d.1.1),()),d.2.1,())) (br ((w.2.2.2.1.length:Int)==0) (some (((2,a,0,0,0,(ak,0,ak,[]),(0,ak,[]),(0,ak,[]),0,0,0,0,0),()),c,())) ((bI F0 (w.2.2.2.1.length:Int) 4).bind fun f=>(au F0 c f.1).bind fun e=>some (((3,e.1.1,0,0,0,(ak,0,ak,[]),(0,ak,[]),(0,ak,[]),0,0,0,0,0),()),e.2.1,())))) fun z:DrT cC=>aeB z.1.1/\Rz z.2.1 :=
 Gd.br (fun _=>Dr.bind (aIs b h) fun x g i=>Gd.ret ⟨⟨g,by simp[eF]⟩,i⟩) fun _=>ag5 h a b
def aG7 {c:wY}(i:Rz c){w:ah}(h:aK w):Dr (U:=cC) (rA F0 c w) aeB:=by
 have p:=h.le7;have q:=h.nl;unfold Dr;rw[XQ];refine aFo ?_;have m:pw (w.2.2.1.length:Int) 1=w.2.2.1.length:=by unfold pw;rw[af (by omega)]
 dsimp only;rw[m];refine Dr.bind (gF i (n:=(w.2.2.1.length:Int)) (by omega) (by omega)) fun x j k=>?_
 obtain⟨b,d⟩:=j;refine Dr.bind (gF k (n:=20) (by omega) (by omega)) fun y r a=>?_
 refine Gd.br (fun _=>apt h b d a) fun _=>Gd.br (fun _=>apt h b d a) fun _=>Gd.br (fun _=>apt h b d a) fun _=>Gd.br (fun _=>XC h b d a) fun _=>Gd.br (fun _=>XC h b d a) fun _=>Gd.br (fun _=>XC h b d a) fun _=>Gd.br (fun _=>XC h b d a) fun _=>Gd.br (fun _=>Gd.ret ⟨⟨IJ,by simp[eF]⟩,a⟩) fun _=>Gd.br (fun _=>Gd.ret ⟨⟨IJ,by simp[eF]⟩,a⟩) fun _=>Gd.br (fun _=>?_) fun _=>Gd.br (fun _=>?_) fun _=>Gd.br (fun _=>apu h _ a) fun _=>Gd.br (fun _=>apu h _ a) fun _=>Gd.br (fun _=>apu h _ a) fun _=>ag5 h _ a
 .refine Dr.bind (ak0 a (n:=2) (by omega) (by omega)) fun z s g=>Gd.br (fun _=>?_) fun _=>?_
  .exact Dr.bind (abe g (l:=[0,0,5,40,9999]) (by decide) (by decide)) fun v f e=>Gd.ret ⟨⟨IJ,by simp[eF]⟩,e⟩
  .refine Dr.bind (gF g (n:=2) (by omega) (by omega)) fun v f e=>aFo ?_
   have m0:0<pw (w.2.2.2.1.length:Int) 1:=by unfold pw;split<;>omega
   have m1:pw (w.2.2.2.1.length:Int) 1<=60:=by unfold pw;split<;>omega
   exact Dr.bind (gF e (n:=pw (w.2.2.2.1.length:Int) 1) m0 (by omega)) fun u t o=>Gd.ret ⟨⟨IJ,by have A:=f.1;have B:=f.2;simp only[eF];rw[aF (by omega) (by omega)];simp;omega⟩,o⟩
 .exact Dr.bind (asm a) fun v f e=>Gd.ret ⟨⟨⟨aO _,fl,fl,fl⟩,by simp[eF]⟩,e⟩
def aFs {code:List Int}(h:code.length<=1048576):∃v:Int,LN F0 code 70 140=some (v,())/\70<=v/\v<=140:=by
 have a:Int.tdiv (code.length:Int) 4=(code.length:Int)/4:=ak9 (by omega);rw[amC,a,aF (n:=(code.length:Int)/4) (by omega) (by omega),aF (by omega) (by omega)];by_cases g:70+(code.length:Int)/4>140
 .rw[aI g];exact⟨140,rfl,by omega,by omega⟩
 .rw[aL g];exact⟨70+(code.length:Int)/4,rfl,by omega,by omega⟩
def aAs {code:List Int}(h:code.length<=1048576):Gd (uT F0 code) fun z=>New z.1/\z.2.1.length<=140/\∀d∈z.2.1,aeB d:=by
 rw[aaH];refine Gd.bind (aIj h) fun B r=>Dr.bind (aFn r) fun s i cs=>?_
 have j:=i.g;refine Gd.let (aiz j.w) ?_;obtain⟨v,t,C,D⟩:=aFs h;refine Gd.let t (Dr.bind (gF cs (n:=v) (by omega) (by omega)) fun a f u=>?_);obtain⟨n0,E⟩:=f;have key:∀(b k:Nat) (z:wY×(ah×List cC)) (n:Nat),(k:Int)+b=a.1.1->Rz z.1->aK z.2.1->z.2.2.length<=k->(∀d∈z.2.2,aeB d)->b<n->k<=140 ->
   Gd (o4 F0 (sV F0) n (k1 a.1.1 (k:Int) 0 0 z.1.1 z.1.2.1 z.1.2.2 s.1.1.1.1 s.1.1.1.2 z.2.1.1.1 z.2.1.1.2 z.2.2 [] [] [] [] s.1.1.2.1 s.1.1.2.2.1 s.1.1.2.2.2.1 s.1.1.2.2.2.2 z.2.1.2.1 z.2.1.2.2.1 z.2.1.2.2.2.1 z.2.1.2.2.2.2)) fun z=>New z.1/\z.2.1.length<=140/\∀d∈z.2.1,aeB d:=by
  intro b
  induction b with
  |zero =>
   intro k z n w l e o c f p;obtain⟨n,rfl⟩:∃m,n=m+1:=⟨n-1,by omega⟩;rw[zV,aL (show ¬(k:Int)<a.1.1 by omega),aa,TR];exact Gd.ret ⟨i,bZ o p,c⟩
  |succ b y =>
   intro k z n w l e o c f p;obtain⟨n,rfl⟩:∃m,n=m+1:=⟨n-1,by omega⟩;rw[zV,aI (show(k:Int)<a.1.1 by omega),ae];refine Dr.bind (aG7 l e) fun d q A=>Gd.ck (ax (by omega) (by omega) (by simp only[aW,bj];omega)) (Gd.let (ax8 e q.1) ?_)
   rw[al (by omega)];exact y (k+1) (d.2.1,ax7 z.2.1 d.1.1,z.2.2++[d.1.1]) n (by omega) A (e.aKg _) (by rw[aG,dt];omega) (fun x g=>(gK.1 g).elim (c x) fun g=>by rw[fA.1 g];exact q) (by omega) (by omega)
 exact key a.1.1.toNat 0 (a.2.1,s.1.1,[]) F0.n (by omega) u j (bf _) (fun d c=>by cases c) (by rw[bH];omega) (by omega)
end Go.Am.Tryz
