/- No condition. -/
import Derived.Test.YtnllfndlcahalaaGreatDoorQvWJL4
set_option linter.all false
namespace Go.Am.Tryz
open Go.Am
def aLb (r:aw)(p:bZ):Bool:= !dh p.2.1&& !decide (p.1<r.2.1)
def iN (c:Int×Int)(r:aw)(p:bZ):aw×Bool :=
 if aLb r p=true/\(bq c r.2.2.2.2.2.1 p).2=true then ((fP c (fQ r (bq c r.2.2.2.2.2.1 p).1) p.1 p.2.1 false).1,true) else (r,false)
def aY.aGh {c:Int×Int}{r:aw}(h:aY c r)(p:bZ):aY c (iN c r p).1:=by
 unfold iN;split
 .exact(h.fQ (pb h.f.t _)).ax8 _ _ _
 .exact h
def aH8 {c:Int×Int}{p:bZ}(h:iC c p=true):ur p:=⟨(Gj h).1,by have:=(Gj h).2;omega⟩
def ayc {c:Int×Int}{r:aw}(h:aY c r){p:bZ}(a:iC c p=true):Ee F0 c r p=some ((iN c r p).1,(iN c r p).2,()):=by
 have e:=JQ (we h.f.t) (Gj a) c;have b:=h.fQ (pb h.f.t p);have f:ba F0 (r.1,r.2.1,r.2.2.1,r.2.2.2.1,r.2.2.2.2.1,(bq c r.2.2.2.2.2.1 p).1,r.2.2.2.2.2.2)=some (fQ r (bq c r.2.2.2.2.2.1 p).1,()):=dW b.bt;obtain⟨x,g,i⟩:=Tn b p.1 (Gj a).1 false;rw[ah5,dW h.bt,ai,ib h.l,ai,h.ok,aN,aa,S6 (aH8 a),ai,a,aN,aa];simp only[ai,e,f,g];unfold iN aLb dh;cases (p.2.1.toList==ak.toList)<;>cases decide (p.1<r.2.1)
 .cases j:(bq c r.2.2.2.2.2.1 p).2 with
  |false=>rfl
  |true =>
   rw[ag ⟨rfl,rfl⟩];cases d:(fP c (fQ r (bq c r.2.2.2.2.2.1 p).1) p.1 p.2.1 false).2 with
   |true=>rw[i d];rfl|false=>rw[aAw d];rfl
 .rfl
 .rfl
 .rfl
def atU {c:Int×Int}{r:aw}(h:aY c r){p:bZ}(a:iC c p=true):EO F0 c r p=some ((iN c r p).1,(iN c r p).2,()):=by
 have b:=E5 (we h.f.t) (Gj a) c;have d:=h.fQ (pb h.f.t p);have e:n4 F0 c (r.1,r.2.1,r.2.2.1,r.2.2.2.1,r.2.2.2.2.1,(bq c r.2.2.2.2.2.1 p).1,r.2.2.2.2.2.2) p.1 p.2.1 false=some ((fP c (fQ r (bq c r.2.2.2.2.2.1 p).1) p.1 p.2.1 false).1,(fP c (fQ r (bq c r.2.2.2.2.2.1 p).1) p.1 p.2.1 false).2,()):=adV d p.1 (Gj a).1 false;rw[aiL,dS h.l,ai,h.ok,aN,aa,OR (aH8 a),ai,a,aN,aa,dX h.bt];simp only[ai,b,e];unfold iN aLb dh;cases (p.2.1.toList==ak.toList)<;>cases decide (p.1<r.2.1)
 .cases f:(bq c r.2.2.2.2.2.1 p).2<;>rfl
 .rfl
 .rfl
 .rfl
def ayd (q:bZ):Int:=Hc 60 (aj (q.1+1))
def tM (c:Int×Int)(r:aw)(view:Int):Bool:=decide (b3 c view=r.1)&&decide (view>=r.2.1)
def MA (l:Bool)(o:aw)(view:Int)(q:bZ):aw:=if l=true then tp (tp o (ayd q)) view else tp o (ayd q)
def rK (imp:Bool)(c:Int×Int)(r:aw)(view:Int)(q:bZ)(cw:Int)(o:aw):aw×Bool :=
 if tM c r view=true then
  if (bq c o.2.2.2.2.2.1 (one view ak cw)).2=true then
   (MA (O7 c (bq c o.2.2.2.2.2.1 (one view ak cw)).1 view) (fQ o (bq c o.2.2.2.2.2.1 (one view ak cw)).1) view q,true)
  else (r,false)
 else (MA (imp&&O7 c o.2.2.2.2.2.1 view) o view q,true)
def iO (imp:Bool)(c:Int×Int)(r:aw)(view:Int)(q:bZ)(cw:Int):aw×Bool:=if (written c r q).2=true then rK imp c r view q cw (written c r q).1 else (r,false)
def ZB {imp:Bool}{c:Int×Int}{r:aw}{view:Int}{q:bZ}{cw:Int}{o:aw}(h:tM c r view=false):rK imp c r view q cw o=(MA (imp&&O7 c o.2.2.2.2.2.1 view) o view q,true):=af (by rw[h];decide)
def arS {imp:Bool}{c:Int×Int}{r:aw}{view:Int}{q:bZ}{cw:Int}{o:aw}(h:tM c r view=true)(a:(bq c o.2.2.2.2.2.1 (one view ak cw)).2=false):rK imp c r view q cw o=(r,false):=by unfold rK;rw[ag h,af (by rw[a];decide)]
def arT {imp:Bool}{c:Int×Int}{r:aw}{view:Int}{q:bZ}{cw:Int}{o:aw}(h:tM c r view=true)(a:(bq c o.2.2.2.2.2.1 (one view ak cw)).2=true) :
  rK imp c r view q cw o=(MA (O7 c (bq c o.2.2.2.2.2.1 (one view ak cw)).1 view) (fQ o (bq c o.2.2.2.2.2.1 (one view ak cw)).1) view q,true):=by
 unfold rK;rw[ag h,ag a]
def anJ (x:Int):Hc 60 x<=60:=by unfold Hc;split<;>omega
def ZC (x:Int):Hc x 60=Hc 60 x:=by unfold Hc;split<;>split<;>omega
def aGi (a b c:Int):te (te a b) c=te (te a c) b:=by
 unfold te
 repeat' split
 all_goals omega
def aY.MA {c:Int×Int}{o:aw}(h:aY c o)(l:Bool){view:Int}(a:view<=60)(q:bZ):aY c (MA l o view q):=by
 unfold Tryz.MA;split
 .exact(h.raised (anJ _)).raised a
 .exact h.raised (anJ _)
def aY.rK {c:Int×Int}{r o:aw}(h:aY c r)(a:aY c o)(imp:Bool){view:Int}(b:view<=60)(q:bZ)(cw:Int):aY c (rK imp c r view q cw o).1:=by
 unfold Tryz.rK;split
 .split
  .exact(a.fQ (pb a.f.t _)).MA _ b q
  .exact h
 .exact a.MA _ b q
def aY.aGj {c:Int×Int}{r:aw}(h:aY c r)(imp:Bool){view:Int}(a:view<=60)(q:bZ)(cw:Int):aY c (iO imp c r view q cw).1:=by
 unfold iO;split
 .exact h.rK (h.w q) imp a q cw
 .exact h
def aye {c:Int×Int}{r:aw}(h:aY c r){view:Int}(m:gC 1 60 view=true){q:bZ}(e:eW c q=true){cw:Int}(n:gC 0 (aj (c.1-1)) cw=true) :
  Ef F0 c r view q cw=some ((iO false c r view q cw).1,(iO false c r view q cw).2,()):=by
 have i:=Mz e;have d:aY c (written c r q).1:=h.w q;rw[ah7,dW h.bt,ai,ib h.l,ai,h.ok,aN,aa,cO,ai,m,aN,aa,S5 i,ai,e,aN,aa,cO,ai,n,aN,aa,axY h.l.s i];simp only[ai];rw[Tm h (arL h q),ai];unfold iO;unfold written at d ⊢;generalize ie c r (Ti c r.2.2.2.1 q)=W at d ⊢;obtain⟨a,o⟩:=W;dsimp only at d ⊢;cases o with
 |false=>rfl
 |true =>
  have p:fm F0 c a.2.2.2.2.2.1 (view,ak,[cw])=some ((bq c a.2.2.2.2.2.1 (one view ak cw)).1,(bq c a.2.2.2.2.2.1 (one view ak cw)).2,()):=JQ (we d.f.t) ⟨aR _,by show 1<=1000;omega⟩ c;have j:=pb d.f.t (one view ak cw);have s:=Tj (l:=(bq c a.2.2.2.2.2.1 (one view ak cw)).1) (bY (we j).1 (by omega)) (fun q e=>(we j).l e) view ak;show _=some ((rK false c r view q cw a).1,(rK false c r view q cw a).2,());rw[ag rfl];simp only[ai,Ml,p,s,adB,Dk,Zy,ae];by_cases f:b3 c view=r.1
  .rw[bd.2 f,ae];by_cases g:view>=r.2.1
   .have b:tM c r view=true:=by unfold tM;rw[aL f,aL g];rfl
    rw[aL g,ae];cases k:(bq c a.2.2.2.2.2.1 (one view ak cw)).2 with
    |false=>rw[arS b k];rfl
    |true =>
     rw[arT b k,aN,aa];unfold O7;cases t:decide (((dj (bq c a.2.2.2.2.2.1 (one view ak cw)).1 view ak).2.2.length:Int)>=BE c) with
     |false=>rw[aa,ZC];rfl|true=>rw[ae,ZC,aGi];rfl
   .have b:tM c r view=false:=by unfold tM;rw[aQ g,aee]
    rw[ZB b,aQ g,aa,ZC];rfl
  .have b:tM c r view=false:=by unfold tM;rw[aQ f,aap]
   rw[ZB b,bU.2 f,aa,ZC];rfl
def atV {c:Int×Int}{r:aw}(h:aY c r){view:Int}(l:gC 1 60 view=true){q:bZ}(g:eW c q=true){cw:Int}(m:gC 0 (aj (c.1-1)) cw=true) :
  EP F0 c r view q cw=some ((iO true c r view q cw).1,(iO true c r view q cw).2,()):=by
 have i:=Mz g;have b:aY c (written c r q).1:=h.w q;rw[aiN,dS h.l,ai,h.ok,aN,aa,bR,ai,l,aN,aa,RW i,ai,g,aN,aa,bR,ai,m,aN,aa,arB h.l.s i,dX h.bt];simp only[ai];rw[adT h (arL h q),ai];unfold iO;unfold written at b ⊢;generalize ie c r (Ti c r.2.2.2.1 q)=W at b ⊢;obtain⟨a,n⟩:=W;dsimp only at b ⊢;cases n with
 |false=>rfl
 |true =>
  have o:eM F0 c a.2.2.2.2.2.1 (view,ak,[cw])=some ((bq c a.2.2.2.2.2.1 (one view ak cw)).1,(bq c a.2.2.2.2.2.1 (one view ak cw)).2,()):=E5 (we b.f.t) ⟨aR _,by show 1<=1000;omega⟩ c;have p:=pb b.f.t (one view ak cw);have s:(if 60<aj (q.1+1) then 60 else aj (q.1+1))=ayd q:=rfl;have t:sV F0 c (a.1,(if ayd q>a.2.1 then ayd q else a.2.1,(a.2.2.1,a.2.2.2.1,a.2.2.2.2.1,(bq c a.2.2.2.2.2.1 (one view ak cw)).1,a.2.2.2.2.2.2))) view=some (O7 c (bq c a.2.2.2.2.2.1 (one view ak cw)).1 view,()) :=
   arN (r:=tp (fQ a (bq c a.2.2.2.2.2.1 (one view ak cw)).1) (ayd q)) ((b.fQ p).raised (anJ _)).l view
  have u:sV F0 c (a.1,(if ayd q>a.2.1 then ayd q else a.2.1,a.2.2)) view=some (O7 c a.2.2.2.2.2.1 view,()):=arN (r:=tp a (ayd q)) (b.raised (anJ _)).l view;show _=some ((rK true c r view q cw a).1,(rK true c r view q cw a).2,());rw[aN,aa,s];simp only[ai,J4,o,t,u];by_cases e:b3 c view=r.1
  .rw[bd.2 e,ae];by_cases f:view>=r.2.1
   .have d:tM c r view=true:=by unfold tM;rw[aL e,aL f];rfl
    rw[aL f,ae];cases j:(bq c a.2.2.2.2.2.1 (one view ak cw)).2 with
    |false=>rw[arS d j];rfl
    |true =>
     rw[arT d j,aN,aa];cases k:O7 c (bq c a.2.2.2.2.2.1 (one view ak cw)).1 view<;>rfl
   .have d:tM c r view=false:=by unfold tM;rw[aQ f,aee]
    rw[ZB d,aQ f,aa,eF];cases k:O7 c a.2.2.2.2.2.1 view<;>rfl
  .have d:tM c r view=false:=by unfold tM;rw[aQ e,aap]
   rw[ZB d,bU.2 e,aa,eF];cases k:O7 c a.2.2.2.2.2.1 view<;>rfl
def O8 (r:aw)(p:List dH):aw:=(r.1,r.2.1,r.2.2.1,r.2.2.2.1,p,r.2.2.2.2.2)
def YQ (r:aw)(x:dH):aw×Bool:=(O8 r (l1 r.2.2.2.2.1 x).1,(l1 r.2.2.2.2.1 x).2)
def aY.O8 {c:Int×Int}{r:aw}(h:aY c r){p:List dH}(a:fi p=true):aY c (O8 r p) :=
 ⟨⟨h.f.cf,h.f.i,h.f.v,h.f.a,h.f.s,a,h.f.t,h.f.d,h.f.n,h.f.h⟩,h.b⟩
def aY.aJV {c:Int×Int}{r:aw}(h:aY c r)(x:dH):aY c (YQ r x).1:=h.O8 (aCV h.f.p x)
def aCZ {l:List dH}{x:dH}(h:(l1 l x).2=false):(l1 l x).1=l:=by
 unfold l1 at h ⊢;cases a:fi (E6 x l) with
 |true=>rw[a,ag rfl]at h;cases h|false=>rfl
def aC0 {c:Int×Int}{r:aw}(h:aY c r)(x:dH):Ny F0 c r x=some ((YQ r x).1,(YQ r x).2,()):=by
 have b:=(adS h.f.p).1;rw[apu,dW h.bt,ai,ib h.l,ai,h.ok,aN,aa,aAn (by omega),ai];unfold YQ;cases a:(l1 r.2.2.2.2.1 x).2 with
 |true=>rfl|false=>rw[aCZ a];rfl
def aAz {c:Int×Int}{r:aw}(h:aY c r)(x:dH):Ow F0 c r x=some ((YQ r x).1,(YQ r x).2,()):=by have a:=(adS h.f.p).1;rw[aqp,dX h.bt,ai,dS h.l,ai,h.ok,aN,aa,ax2 (by omega),ai];rfl
def uu (imp:Bool)(c:Int×Int)(r:aw)(m:b1):aw×Bool :=
 if m.1=1 then fc c r m.2.2.1 else if m.1=2 then iN c r m.2.2.2.1 else if m.1=3 then iO imp c r m.2.1 m.2.2.2.2.1 m.2.2.2.2.2.1 else YQ r m.2.2.2.2.2.2
def R4 (r:aw):aw:=fQ r (agU r.2.2.2.2.2.1 (aj (r.2.1-1)))
def finish (c:Int×Int)(r:aw):aw:=O8 (R4 r) (arG r.2.2.2.2.1 (iY c (R4 r)))
def Hd (imp:Bool)(c:Int×Int)(r:aw)(m:b1):aw×Bool:=if c8 c m=true/\(uu imp c r m).2=true then (finish c (uu imp c r m).1,true) else (r,false)
def aY.R4 {c:Int×Int}{r:aw}(h:aY c r):aY c (R4 r):=h.fQ (arQ h.f.t _)
def aY.finish {c:Int×Int}{r:aw}(h:aY c r):aY c (finish c r):=h.R4.O8 (atT h.f.p _)
def ag3 (c:Int×Int)(r:aw):(iY c r).1.length<=4/\(iY c r).2.length<=4:=by
 unfold iY;split
 .have:=JH Mu (xs:=VH r.2.2.2.1.2.2.2);exact⟨Nat.le_of_eq this.1,Nat.le_of_eq this.2⟩
 .exact⟨aR _,aR _⟩
structure aMK (c:Int×Int) (m:b1):Prop where
 k:m.1=1\/m.1=2\/m.1=3\/m.1=4
 b:m.1=1->fK c m.2.2.1=true
 p:m.1=2->iC c m.2.2.2.1=true/\dh m.2.2.2.1.2.1=false
 v:m.1=3->gC 1 60 m.2.1=true/\eW c m.2.2.2.2.1=true/\gC 0 (aj (c.1-1)) m.2.2.2.2.2.1=true
 t:m.1=4->gx m.2.2.2.2.2.2=true
 s:named m=m
def ag4 {c:Int×Int}{m:b1}(h:c8 c m=true):aMK c m:=by
 unfold c8 at h;simp only[aG]at h;obtain⟨i,g,a⟩:=h;have d:=adM g;by_cases b:m.1=1
 .rw[ag (by simpa using b)]at a;exact⟨.inl b,fun _=>a,fun h=>by omega,fun h=>by omega,fun h=>by omega,d⟩
 .by_cases e:m.1=2
  .rw[af (by simpa using b),ag (by simpa using e)]at a;simp only[aG,ajX]at a;exact⟨.inr (.inl e),fun h=>by omega,fun _=>a,fun h=>by omega,fun h=>by omega,d⟩
  .by_cases f:m.1=3
   .rw[af (by simpa using b),af (by simpa using e),ag (by simpa using f)]at a;simp only[aG]at a;exact⟨.inr (.inr (.inl f)),fun h=>by omega,fun h=>by omega,fun _=>a,fun h=>by omega,d⟩
   .rw[af (by simpa using b),af (by simpa using e),af (by simpa using f)]at a;simp only[aG,bd]at a;exact⟨.inr (.inr (.inr a.1)),fun h=>by omega,fun h=>by omega,fun h=>by omega,fun _=>a.2,d⟩
def aY.aC1 {c:Int×Int}{r:aw}(h:aY c r)(imp:Bool){m:b1}(a:c8 c m=true):aY c (uu imp c r m).1:=by
 have b:=ag4 a;unfold uu;split
 .exact h.arR _
 .split
  .exact h.aGh _
  .split
   .rename_i d;have:=(b.v d).1;simp only[gC,aG,bV]at this;exact h.aGj imp this.2 _ _
   .exact h.aJV _
def aY.heard {c:Int×Int}{r:aw}(h:aY c r)(imp:Bool)(m:b1):aY c (Hd imp c r m).1:=by
 unfold Hd;split
 .rename_i a;exact(h.aC1 imp a.1).finish
 .exact h
def aAA {c:Int×Int}{r:aw}(h:aY c r){m:b1}(b:c8 c m=true):I2 F0 c r m=some ((uu false c r m).1,(uu false c r m).2,()):=by
 have a:=ag4 b;rw[ami];unfold uu;rcases a.k with k|k|k|k
 .rw[bd.2 k,ae,ag k,acf h (a.b k),ai]
 .rw[bU.2 (show m.1≠1 by omega),aa,bd.2 k,ae,af (by omega),ag k,ayc h (a.p k).1,ai]
 .rw[bU.2 (show m.1≠1 by omega),aa,bU.2 (show m.1≠2 by omega),aa,bd.2 k,ae,af (by omega),af (by omega),ag k,aye h (a.v k).1 (a.v k).2.1 (a.v k).2.2,ai]
 .rw[bU.2 (show m.1≠1 by omega),aa,bU.2 (show m.1≠2 by omega),aa,bU.2 (show m.1≠3 by omega),aa,af (by omega),af (by omega),af (by omega),aC0 h,ai]
def aAB {c:Int×Int}{r:aw}(h:aY c r){m:b1}(e:gb m):QK F0 c r m=some ((Hd false c r m).1,(Hd false c r m).2,()):=by
 rw[awP,ib h.l,ai,h.ok,aN,aa,J7 e,ai,dW h.bt,ai];unfold Hd;cases d:c8 c m with
 |false=>rfl
 |true =>
  rw[aAA h d,ai];have b:=h.aC1 false d;generalize uu false c r m=X at b ⊢;obtain⟨a,ok⟩:=X;dsimp only at b ⊢;cases ok with
  |false=>rfl
  |true =>
   have f:Li F0 c (a.1,a.2.1,a.2.2.1,a.2.2.2.1,a.2.2.2.2.1,agU a.2.2.2.2.2.1 (aj (a.2.1-1)),a.2.2.2.2.2.2)=some (iY c (R4 a),()):=aFX b.R4.l c;have i:=ag3 c (R4 a);have g:=ax4 (p:=a.2.2.2.2.1) b.l.p (l:=iY c (R4 a)) (by omega) (by omega);rw[atN b.l.t b.l.tq,ai,f,ai,g,ai];rfl
def avc {c:Int×Int}{r:aw}(h:aY c r){m:b1}(i:gb m):J1 F0 c r m=some ((Hd true c r m).1,(Hd true c r m).2,()):=by
 rw[axf,Mp i,ai,dX h.bt,ai];unfold Hd;cases f:c8 c m with
 |false=>rfl
 |true =>
  have d:=ag4 f;have tail:∀a:aw,aY c a->∀ok:Bool,br (!ok) (some (r,false,())) ((hI F0 a.2.2.2.2.2.1 (aj (a.2.1-1))).bind fun g=>(lN F0 c (a.1,a.2.1,a.2.2.1,a.2.2.2.1,a.2.2.2.2.1,g.1,a.2.2.2.2.2.2)).bind fun j=>(jB F0 a.2.2.2.2.1 j.1).bind fun n=>some ((a.1,a.2.1,a.2.2.1,a.2.2.2.1,n.1,g.1,a.2.2.2.2.2.2),true,())) =
    some ((if true=true/\ok=true then (finish c a,true) else (r,false)).1,(if true=true/\ok=true then (finish c a,true) else (r,false)).2,()):=fun a b ok=>by
   cases ok with
   |false=>rfl
   |true =>
    have o:lN F0 c (a.1,a.2.1,a.2.2.1,a.2.2.2.1,a.2.2.2.2.1,agU a.2.2.2.2.2.1 (aj (a.2.1-1)),a.2.2.2.2.2.2)=some (iY c (R4 a),()):=ari b.R4.l c;have s:=ag3 c (R4 a);have q:=atP (p:=a.2.2.2.2.1) b.l.p (l:=iY c (R4 a)) (by omega) (by omega);rw[arE b.l.t b.l.tq,ai,o,ai,q,ai];rfl
  have b:=h.aC1 true f;rw[aN,aa];rcases d.k with k|k|k|k
  .have e:uu true c r m=fc c r m.2.2.1:=ag k;rw[e]at b ⊢;rw[bd.2 k,ae,YP h (d.b k),ai];exact tail _ b _
  .have e:uu true c r m=iN c r m.2.2.2.1:=by unfold uu;rw[af (by omega),ag k]
   rw[e]at b ⊢;rw[bU.2 (show m.1≠1 by omega),aa,bd.2 k,ae,atU h (d.p k).1,ai];exact tail _ b _
  .have e:uu true c r m=iO true c r m.2.1 m.2.2.2.2.1 m.2.2.2.2.2.1:=by unfold uu;rw[af (by omega),af (by omega),ag k]
   rw[e]at b ⊢;rw[bU.2 (show m.1≠1 by omega),aa,bU.2 (show m.1≠2 by omega),aa,bd.2 k,ae,atV h (d.v k).1 (d.v k).2.1 (d.v k).2.2,ai];exact tail _ b _
  .have e:uu true c r m=YQ r m.2.2.2.2.2.2:=by unfold uu;rw[af (by omega),af (by omega),af (by omega)]
   rw[e]at b ⊢;rw[bU.2 (show m.1≠1 by omega),aa,bU.2 (show m.1≠2 by omega),aa,bU.2 (show m.1≠3 by omega),aa,aAz h,ai];exact tail _ b _
def Gk (w:ah):(aD w).length<=w.2.2.1.length:=j9 _ _
def ZD {U ζ γ:Type}(X:Nat->Int->ζ->Option γ)(a:List U)(f:ζ->U->ζ)(I:ζ->Prop)(R:Option γ)(b:ζ)(d:I b)(e:∀z x,x∈a->I z->I (f z x))
  (g:∀n k z (h:k<a.length),I z->X (n+1) (k:Int) z=X n ((k+1:Nat):Int) (f z a[k])) (i:∀n,X (n+1) (a.length:Int) (a.foldl f b)=R) (n:Nat) (j:a.length<n):X n 0 b=R:=by
 refine cv X a.length (fun k z=>z=(a.take k).foldl f b/\I z) R (fun n k z c h=>.inr ⟨_,g n k z c h.2,?_,e _ _ (bJ c) h.2⟩) (fun n z h=>?_) n 0 b (aR _) ⟨rfl,d⟩ (by omega)
 .rw[ei c,List.foldl_append,h.1];rfl
 .rw[h.1,kl];exact i n
def isSaid (view:Int)(name:ByteArray)(cw:Int)(y:cD):Bool:=(y.1==view)&&((y.2.1.toList==name.toList)&&(y.2.2==cw))
def kj (l:List cD)(view:Int)(name:ByteArray)(cw:Int):Bool:=l.any (isSaid view name cw)
def aAC {U:Type}{p:U->Bool}{l:List U}{k:Nat}(a:k<l.length):(l.drop k).any p=(p l[k] || (l.drop (k+1)).any p):=by rw[VK a,List.any_cons]
def arU {l:List cD}(h:l.length<=1048576)(view:Int)(name:ByteArray)(cw:Int):FD F0 l view name cw=some (kj l view name cw,()):=by
 rw[apy];refine cv (fun n k (z:Unit)=>o0 F0 (vk F0) n (kB l view name cw k)) l.length (fun k _=>kj l view name cw=(l.drop k).any (isSaid view name cw)) _ (fun n k z b a=>?_) (fun n z a=>?_) F0.n 0 () (aR _) rfl (by rw[bz];omega)
 .rw[aAC b]at a;rw[Lk,aM b,ae,an b,ab,ab,ab,aV b,aib,al (by omega),a];unfold isSaid;cases c:(l[k].1==view) with
  |false=>exact .inr ⟨(),aa _ _,rfl⟩
  |true =>
   cases d:(l[k].2.1.toList==name.toList) with
   |false=>exact .inr ⟨(),by rw[ae,aa],rfl⟩
   |true =>
    cases e:(l[k].2.2==cw) with
    |false=>exact .inr ⟨(),by rw[ae,ae,aa],rfl⟩
    |true=>exact .inl rfl
 .rw[VM]at a;rw[Lk,aC,aa,afj,a];rfl
def aJW {l:List cD}(h:l.length<=1048576)(x:cD):∃r,Zh F0 l x=some (r,())/\decide (r>=0)=kj l x.1 x.2.1 x.2.2:=by
 rw[aw3];have key:∀(a k n:Nat),k+a=l.length->a<n->∃r,Ob F0 (EI F0) n (EH l (l.length:Int) (k:Int) x.1 x.2.1 x.2.2)=some (r,())/\decide (r>=0)=(l.drop k).any (isSaid x.1 x.2.1 x.2.2):=by
  intro a
  induction a with
  |zero =>
   intro k n c d;obtain⟨n,rfl⟩:∃m,n=m+1:=⟨n-1,by omega⟩;obtain rfl:k=l.length:=by omega
   rw[Re,aC,aa,amQ,VM];exact⟨-1,rfl,rfl⟩
  |succ a f =>
   intro k n c d;obtain⟨n,rfl⟩:∃m,n=m+1:=⟨n-1,by omega⟩;have b:k<l.length:=by omega
   have e:((x.1==l[k].1)&&((x.2.1.toList==l[k].2.1.toList)&&((x.2.2==l[k].2.2)&&true)))=isSaid x.1 x.2.1 x.2.2 l[k]:=by unfold isSaid;rw[Bool.and_true,show(x.1==l[k].1)=(l[k].1==x.1) from tr,show(x.2.1.toList==l[k].2.1.toList)=(l[k].2.1.toList==x.2.1.toList) from tr,show(x.2.2==l[k].2.2)=(l[k].2.2==x.2.2) from tr]
   rw[Re,aM b,ae,an b,ab,aV b,e,aqd,al (by omega),aAC b];cases g:isSaid x.1 x.2.1 x.2.2 l[k]with
   |true=>exact⟨(k:Int),ae _ _,by rw[aL (show(k:Int)>=0 by omega)];rfl⟩
   |false =>
    rw[aa,Kf];exact f (k+1) n (by omega) (by omega)
 exact key l.length 0 F0.n (by omega) (by rw[bz];omega)
def Dm {l:List cD}(h:l.length<=1048576)(x:cD):c9 F0 l x=some (kj l x.1 x.2.1 x.2.2,()):=by obtain⟨r,a,b⟩:=aJW h x;rw[G1,a,ai,b]
def R5 (liars:List Int)(l:List cD)(view:Int)(name:ByteArray)(i:Int):Bool:=decide (i∈liars) || kj l view name i
def signed (liars:List Int)(l:List cD)(view:Int)(name:ByteArray)(cw:List Int):Bool:=cw.all (R5 liars l view name)
def adY {liars:List Int}(c:liars.length<=1048576){l:List cD}(b:l.length<=1048576)(view:Int)(name:ByteArray){cw:List Int}(d:cw.length<=1048576):xx F0 liars l view name cw=some (signed liars l view name cw,()):=by
 rw[apz,er (fun m k=>tX F0 (vl F0) m (oE liars l view name cw k)) cw.length (fun k=>R5 liars l view name (cw.getD k 0)) (some (true,())) (some (false,())) (fun m k a=>?_) (fun m=>?_) _ (by rw[bz];omega),Gc,rG]
 .rfl
 .rw[Ll,aM a,ae,an a,ab,ab,aV a,fH (by omega),ai,arU b,ai,aic,al (by omega),aJ a];unfold R5;cases decide (cw[k]∈liars)<;>cases kj l view name cw[k]<;>rfl
 .rw[Ll,aC,aa,afk]
def YR {liars:List Int}(c:liars.length<=1048576){l:List cD}(b:l.length<=1048576)(view:Int)(name:ByteArray){cw:List Int}(d:cw.length<=1048576):x2 F0 liars l view name cw=some (signed liars l view name cw,()):=by
 rw[aqt,er (fun m k=>um F0 (vP F0) m (oN liars l view name cw (cw.length:Int) k)) cw.length (fun k=>R5 liars l view name (cw.getD k 0)) (some (true,())) (some (false,())) (fun m k a=>?_) (fun m=>?_) _ (by rw[bz];omega),Gc,rG]
 .rfl
 .rw[L0,aM a,ae,an a,ab,aV a,eD (by omega),ai,Dm b,ai,aiU,al (by omega),aJ a];unfold R5;cases decide (cw[k]∈liars)<;>cases kj l view name cw[k]<;>rfl
 .rw[L0,aC,aa,af5]
def JR (liars:List Int)(l:List cD)(q:bZ):Bool:=signed liars l q.1 q.2.1 q.2.2
def He (c:Int×Int)(liars:List Int)(l:List cD)(m:b1):Bool :=
 c8 c m&&(if m.1=1 then decide (b3 c (aE m.2.2.1.1.data.toList)∈liars)&&JR liars l m.2.2.1.2 else if m.1=2 then JR liars l m.2.2.2.1 else if m.1=3 then decide (m.2.2.2.2.2.1∈liars)&&JR liars l m.2.2.2.2.1 else true)
def aC2 {c:Int×Int}{liars:List Int}(f:liars.length<=1048576){l:List cD}(g:l.length<=1048576){m:b1}(a:gb m):NA F0 c liars l m=some (He c liars l m,()):=by
 rw[apB,J7 a,ai,o7 a.1,ai,Ml,ai,fH (by omega),ai,adY f g _ _ a.2.1.2,ai,adY f g _ _ a.2.2.1.2,ai,fH (by omega),ai,adY f g _ _ a.2.2.2.2,ai];unfold He;cases c8 c m with
 |false=>rfl
 |true =>
  rw[aN,aa,eF];by_cases b:m.1=1
  .rw[bd.2 b,ae,ag b];dsimp only;cases decide (b3 c (aE m.2.2.1.1.data.toList)∈liars)<;>rfl
  .rw[bU.2 b,aa,af b];by_cases d:m.1=2
   .rw[bd.2 d,ae,ag d];rfl
   .rw[bU.2 d,aa,af d];by_cases e:m.1=3
    .rw[bd.2 e,ae,ag e];dsimp only;cases decide (m.2.2.2.2.2.1∈liars)<;>rfl
    .rw[bU.2 e,aa,af e]
def ayf:sv F0=some (b9,()):=by rw[Ux];rfl
def ag5 {liars:List Int}{l:List cD}{q:bZ}{U:Type}(f:Bool->U):br (gy q b9) (some (f true)) (some (f (JR liars l q)))=some (f (JR liars l q)):=by
 cases h:gy q b9 with
 |false=>rfl
 |true =>
  have:=R0 h;subst this;rfl
def aAD {c:Int×Int}{liars:List Int}(d:liars.length<=1048576){l:List cD}(e:l.length<=1048576){m:b1}(a:gb m):OB F0 c liars l m=some (He c liars l m,()):=by
 rw[aqv,Mp a,ai,rF a.1,ai,J4,ai,eD (by omega),ai,ayf,ai,Mo a.2.1,ai,YR d e _ _ a.2.1.2,ai,YR d e _ _ a.2.2.1.2,ai,eD (by omega),ai,ai,Mo a.2.2.2,ai,YR d e _ _ a.2.2.2.2,ai];dsimp only;have f1:=ag5 (liars:=liars) (l:=l) (q:=m.2.2.1.2) (fun b=>(b,()));have f2:=ag5 (liars:=liars) (l:=l) (q:=m.2.2.2.2.1) (fun b=>(b,()));unfold JR at f1 f2;rw[f1,f2];unfold He;cases dd:c8 c m with
 |false=>rfl
 |true =>
  rw[aN,aa,eF];rcases(ag4 dd).k with k|k|k|k
  .rw[bU.2 (show m.1≠4 by omega),aa,bU.2 (show m.1≠2 by omega),aa,bd.2 k,ae,ag k];unfold JR;cases decide (b3 c (aE m.2.2.1.1.data.toList)∈liars)<;>rfl
  .rw[bU.2 (show m.1≠4 by omega),aa,bd.2 k,ae,af (by omega),ag k];rfl
  .rw[bU.2 (show m.1≠4 by omega),aa,bU.2 (show m.1≠2 by omega),aa,bU.2 (show m.1≠1 by omega),aa,af (by omega),af (by omega),ag k];unfold JR;cases decide (m.2.2.2.2.2.1∈liars)<;>rfl
  .rw[bd.2 k,ae,af (by omega),af (by omega),af (by omega)]
def Vl (id:Int)(q:bZ):List cD:=if dh q.2.1=true then [] else if id∈q.2.2 then [(q.1,q.2.1,id)] else []
def cH (id:Int)(m:b1):List cD:=if m.1=4 then [] else if m.1=2 then Vl id m.2.2.2.1 else if m.1=1 then Vl id m.2.2.1.2 else Vl id m.2.2.2.2.1
def R6 (id:Int)(q:bZ):br (q.2.1.toList==ak.toList) (some (([]:List cD),())) (br (!decide (id∈q.2.2)) (some ([],())) (some ([(q.1,q.2.1,id)],())))=some (Vl id q,()):=by
 unfold Vl dh;cases (q.2.1.toList==ak.toList) with
 |true=>rfl
 |false =>
  by_cases h:id∈q.2.2
  .rw[aL h,af (by decide),ag h];rfl
  .rw[aQ h,af (by decide),af h];rfl
def aC3 {m:b1}(d:gb m)(id:Int):NI F0 id m=some (cH id m,()):=by
 rw[apI,fH (bY d.2.2.1.2 (by omega)),ai,fH (bY d.2.1.2 (by omega)),ai,fH (bY d.2.2.2.2 (by omega)),ai];dsimp only;rw[R6 id m.2.2.2.1,R6 id m.2.2.1.2,R6 id m.2.2.2.2.1];unfold cH;by_cases a:m.1=4
 .rw[ag a,bU.2 (show m.1≠2 by omega),aa,bU.2 (show m.1≠1 by omega),aa,bd.2 a,ae]
 .rw[af a,bU.2 a,aa,aa,aa];by_cases b:m.1=2
  .rw[ag b,bd.2 b,ae]
  .rw[af b,bU.2 b,aa];by_cases c:m.1=1
   .rw[ag c,bd.2 c,ae]
   .rw[af c,bU.2 c,aa]
def ale {m:b1}(d:gb m)(id:Int):FP F0 id m=some (cH id m,()):=by
 rw[aqc,eD (bY d.2.2.1.2 (by omega)),ai,eD (bY d.2.1.2 (by omega)),ai,eD (bY d.2.2.2.2 (by omega)),ai];dsimp only;rw[R6 id m.2.2.2.1,R6 id m.2.2.1.2,R6 id m.2.2.2.2.1];unfold cH;by_cases a:m.1=4
 .rw[ag a,bd.2 a,ae]
 .rw[af a,bU.2 a,aa];by_cases b:m.1=2
  .rw[ag b,bd.2 b,ae]
  .rw[af b,bU.2 b,aa];by_cases c:m.1=1
   .rw[ag c,bd.2 c,ae]
   .rw[af c,bU.2 c,aa]
def adZ (id:Int)(m:b1):(cH id m).length<=1:=by
 have a:∀q:bZ,(Vl id q).length<=1:=fun q=>by
  unfold Vl;split
  .exact aR _
  .split
   .exact bF _
   .exact aR _
 unfold cH;split
 .exact aR _
 .split
  .exact a _
  .split
   .exact a _
   .exact a _
def Dn (l:List cD)(x:cD):List cD:=if l.length<300/\kj l x.1 x.2.1 x.2.2=false then l++[x] else l
def aC4 (id:Int)(l:List cD)(p:jC):List cD:=(cH id p.2).foldl Dn l
def ZE (id:Int)(list:List jC)(l:List cD):List cD:=list.foldl (aC4 id) l
def oR (w:ah)(id:Int)(list:List jC):ah:=if id∈aD w then (w.1,w.2.1,w.2.2.1,w.2.2.2.1,ZE id list w.2.2.2.2) else w
def ad0 {l:List cD}(h:l.length<=300)(x:cD):(Dn l x).length<=300:=by
 unfold Dn;split
 .rename_i a;rw[aK,cR];omega
 .exact h
def ag6:∀{xs:List cD} {l:List cD},l.length<=300->(xs.foldl Dn l).length<=300
 |[],_,h=>h|x::xs,l,h=>ag6 (xs:=xs) (ad0 h x)
def alf (id:Int):∀{list:List jC} {l:List cD},l.length<=300->(ZE id list l).length<=300
 |[],_,h=>h|p::list,l,h=>alf id (list:=list) (ag6 h)
def aGk {w:ah}(h:PK w)(j:w.2.2.2.2.length<=300)(id:Int){list:List jC}(o:list.length<=1048576)(l:∀p∈list,gb p.2):Lo F0 w id list=some (oR w id list,()):=by
 rw[as8,ak8 h,ai,arb h.l,ai,fH (by have:=Gk w;have:=h.l.r;dsimp only;omega),ai];unfold oR;by_cases b:id∈aD w
 .rw[aL b,ag b,aN,aa];refine ZD (fun n k z=>I4 F0 (An F0) n (Al id list k 0 0 w.1.1 w.1.2 [] [] [] [] w.2.1 w.2.2.1 w.2.2.2.1 z)) list (aC4 id) (fun z=>z.length<=300) _ w.2.2.2.2 j (fun z p q d=>ag6 d) (fun n k z c d=>?_) (fun n=>?_) _ (by rw[bz];omega)
  .rw[NK,aM c,ae,an c,ab,aV c,aC3 (l _ (bJ c)),ai];have r:=adZ id list[k].2;refine ZD (fun m a (y:List cD)=>so F0 (Ln F0 (An F0) n) m (mB id list (k:Int) a 0 0 w.1.1 w.1.2 (cH id list[k].2) [] [] [] [] w.2.1 w.2.2.1 w.2.2.2.1 y)) (cH id list[k].2) Dn (fun y=>y.length<=300) _ z d (fun y x s g=>ad0 g x) (fun m a y e g=>?_) (fun m=>?_) _ (by rw[bz];omega)
   .rw[NJ,aM e,ae,an e,ab,aV e,arU (by omega),ai,ar (by omega) (by omega) (by first|omega|(simp only[aK,aW,bm];omega)|(rw[bc,bB];omega)),ab,al (by omega)];unfold Dn;by_cases i:y.length<300
    .rw[aL (show(y.length:Int)<300 by omega),ae];cases kj y (cH id list[k].2)[a].1 (cH id list[k].2)[a].2.1 (cH id list[k].2)[a].2.2 with
     |true=>rw[af (fun f=>by cases f.2)];rfl
     |false=>rw[ag ⟨i,rfl⟩];rfl
    .rw[aQ (show ¬(y.length:Int)<300 by omega),aa,af (fun f=>i f.1)]
   .rw[NJ,aC,aa,aif,al (by omega)];rfl
  .rw[NK,aC,aa,aih];rfl
 .rw[aQ b,af b];rfl
def aC5 {w:ah}(h:PK w)(j:w.2.2.2.2.length<=300)(id:Int){list:List jC}(o:list.length<=1048576)(l:∀p∈list,gb p.2):SL F0 w id list=some (oR w id list,()):=by
 rw[atm,lP h,ai,nu h.l,ai,eD (by have:=Gk w;have:=h.l.r;dsimp only;omega),ai];unfold oR;by_cases b:id∈aD w
 .rw[aL b,ag b,aN,aa];refine ZD (fun n k z=>Jl F0 (AW F0) n (AU id list (list.length:Int) k 0 0 w.1.1 w.1.2 [] [] [] [] w.2.1 w.2.2.1 w.2.2.2.1 z)) list (aC4 id) (fun z=>z.length<=300) _ w.2.2.2.2 j (fun z p q d=>ag6 d) (fun n k z c d=>?_) (fun n=>?_) _ (by rw[bz];omega)
  .rw[Od,aM c,ae,an c,ab,aV c,ale (l _ (bJ c)),ai];have r:=adZ id list[k].2;refine ZD (fun m a (y:List cD)=>sK F0 (LH F0 (AW F0) n) m (mS id list (list.length:Int) (k:Int) ((cH id list[k].2).length:Int) a 0 0 w.1.1 w.1.2 (cH id list[k].2) [] [] [] [] w.2.1 w.2.2.1 w.2.2.2.1 y)) (cH id list[k].2) Dn (fun y=>y.length<=300) _ z d (fun y x s g=>ad0 g x) (fun m a y e g=>?_) (fun m=>?_) _ (by rw[bz];omega)
   .rw[Oc,aM e,ae,an e,ab,aV e,Dm (by omega),ai,ar (by omega) (by omega) (by first|omega|(simp only[aK,aW,bm];omega)|(rw[bc,bB];omega)),ab,al (by omega)];unfold Dn;by_cases i:y.length<300
    .rw[aL (show(y.length:Int)<300 by omega),ae];cases kj y (cH id list[k].2)[a].1 (cH id list[k].2)[a].2.1 (cH id list[k].2)[a].2.2 with
     |true=>rw[af (fun f=>by cases f.2)];rfl
     |false=>rw[ag ⟨i,rfl⟩];rfl
    .rw[aQ (show ¬(y.length:Int)<300 by omega),aa,af (fun f=>i f.1)];cases kj y (cH id list[k].2)[a].1 (cH id list[k].2)[a].2.1 (cH id list[k].2)[a].2.2<;>rfl
   .rw[Oc,aC,aa,aiB,al (by omega)];rfl
  .rw[Od,aC,aa,aiC];rfl
 .rw[aQ b,af b];rfl
def acg (c:Int×Int)(a:List gD)(p:jC):List gD:=if a.length<60/\c8 c p.2=true/\gC 0 (aj (c.1-1)) p.1=true then a++[(p.1,Dj p.2)] else a
def arV (c:Int×Int)(list:List jC)(a:List gD):List gD:=list.foldl (acg c) a
def BK (w:ah)(list:List jC):ah:=(w.1,w.2.1,w.2.2.1,arV w.1 list w.2.2.2.1,w.2.2.2.2)
def ajH {c:Int×Int}{a:List gD}(h:a.length<=60)(p:jC):(acg c a p).length<=60:=by
 unfold acg;split
 .rename_i b;rw[aK,cR];omega
 .exact h
def avd (c:Int×Int)(m:b1):decide (((agQ c m).length:Int)>0)=c8 c m:=by
 unfold agQ;cases h:c8 c m with
 |false=>rfl
 |true =>
  have:=(ary h).2.2;rw[ag rfl];exact aL (by omega)
def alg {w:ah}(e:w.2.2.2.1.length<=60){list:List jC}(h:list.length<=1048576)(f:∀p∈list,gb p.2):Ah F0 w list=some ((BK w list,()),()):=by
 rw[amm];refine ZD (fun n k z=>jY F0 (CM F0) n (gl list k w.1.1 w.1.2 0 0 w.2.1 w.2.2.1 z w.2.2.2.2 [] [] [] [])) list (acg w.1) (fun z=>z.length<=60) _ w.2.2.2.1 e (fun z p i c=>ajH c p) (fun n k z b c=>?_) (fun n=>?_) _ (by rw[bz];omega)
 .rw[HF,aM b,ae,an b,ab,aV b,show((w.1.1,w.1.2):Int×Int)=w.1 from rfl,axV (f _ (bJ b)),ai,ab,cO,ai,ab,ar (by omega) (by omega) (by first|omega|(simp only[aK,aW,bm];omega)|(rw[bc,bB];omega)),ab,al (by omega)];dsimp only;rw[avd];unfold acg;by_cases d:z.length<60
  .rw[aL (show(z.length:Int)<60 by omega),ae];cases g:c8 w.1 list[k].2 with
   |false=>rw[af (fun a=>by cases a.2.1)];rfl
   |true =>
    cases j:gC 0 (aj (w.1.1-1)) list[k].1 with
    |false=>rw[af (fun a=>by cases a.2.2)];rfl
    |true=>rw[ag ⟨d,rfl,rfl⟩,ae,ae,show agQ w.1 list[k].2=Dj list[k].2 from ag g]
  .rw[aQ (show ¬(z.length:Int)<60 by omega),aa,af (fun a=>d a.1)]
 .rw[HF,aC,aa,acZ];rfl
def aGl {w:ah}(h:PK w)(e:w.2.2.2.1.length<=60){list:List jC}(i:list.length<=1048576)(f:∀p∈list,gb p.2):Rh F0 w list=some (if fg w=true then BK w list else w,()):=by
 rw[aw5,lP h,ai,gP h.l,ai];cases dd:fg w with
 |false=>rfl
 |true =>
  rw[aN,aa,ag rfl];refine ZD (fun n k z=>rr F0 (Pw F0) n (lL list (list.length:Int) k w.1.1 w.1.2 w.2.1 w.2.2.1 w.2.2.2.1 w.2.2.2.2 0 0 w.1.1 w.1.2 [] [] [] [] w.2.1 w.2.2.1 z w.2.2.2.2)) list (acg w.1) (fun z=>z.length<=60) _ w.2.2.2.1 e (fun z p j c=>ajH c p) (fun n k z b c=>?_) (fun n=>?_) _ (by rw[bz];omega)
  .rw[Rg,aM b,ae,an b,ab,aV b,show((w.1.1,w.1.2):Int×Int)=w.1 from rfl,ab9 (f _ (bJ b)),ai,bR,ai,ar (by omega) (by omega) (by first|omega|(simp only[aK,aW,bm];omega)|(rw[bc,bB];omega)),ab,al (by omega)];dsimp only;rw[avd];unfold acg;cases g:c8 w.1 list[k].2 with
   |false=>rw[af (fun a=>by cases a.2.1)];rfl
   |true =>
    cases l:gC 0 (aj (w.1.1-1)) list[k].1 with
    |false=>rw[af (fun a=>by cases a.2.2)];rfl
    |true =>
     by_cases d:z.length<60
     .rw[aL (show(z.length:Int)<60 by omega),ag ⟨d,rfl,rfl⟩,show agQ w.1 list[k].2=Dj list[k].2 from ag g];rfl
     .rw[aQ (show ¬(z.length:Int)<60 by omega),af (fun a=>d a.1)];rfl
  .rw[Rg,aC,aa,amU];rfl
def anK {c:Int×Int}{r:aw}{a:Int}{m:b1}:(lV c r a m).1.1=r.1:=by unfold lV;split<;>rfl
def aH9 {c:Int×Int}{r:aw}{q:bZ}:(p1 c r q).1.1=r.1:=by
 have h:(written c r q).1.1=r.1:=agX;unfold p1;split
 .split
  .exact h
  .split
   .exact h
   .rw[anK];exact h
 .rfl
def arW {c:Int×Int}{r:aw}{view:Int}{name:ByteArray}{a:Bool}:(fP c r view name a).1.1=r.1:=by
 unfold fP;split
 .rfl
 .split
  .split
   .exact aH9
   .rfl
  .split
   .rfl
   .exact anK
def aLc {c:Int×Int}{r:aw}{name:ByteArray}:(own c r name).1.1=r.1:=by
 unfold own;split
 .rw[arW];rfl
 .rfl
def aIa {r:aw}{b:cr}:(jE r b).1=r.1:=by unfold jE;split<;>rfl
def ag7 {c:Int×Int}{r:aw}{b:cr}:(fc c r b).1.1=r.1:=by
 have h:(ie c (jE r b) (tL c r b)).1.1=r.1:=by rw[agX,aIa]
 unfold fc Cg;split
 .split
  .split
   .rw[aLc];exact h
   .rfl
  .exact h
 .rfl
def aAE {c:Int×Int}{r:aw}{p:bZ}:(iN c r p).1.1=r.1:=by
 unfold iN;split
 .rw[arW];rfl
 .rfl
def aAF {imp:Bool}{c:Int×Int}{r:aw}{view:Int}{q:bZ}{cw:Int}:(iO imp c r view q cw).1.1=r.1:=by
 have h:(written c r q).1.1=r.1:=agX;have b:∀(l:Bool) (a:aw),(MA l a view q).1=a.1:=fun l a=>by unfold MA;split<;>rfl
 unfold iO rK;split
 .split
  .split
   .rw[b];exact h
   .rfl
  .rw[b];exact h
 .rfl
def aIb {imp:Bool}{c:Int×Int}{r:aw}{m:b1}:(uu imp c r m).1.1=r.1:=by
 unfold uu;split
 .exact ag7
 .split
  .exact aAE
  .split
   .exact aAF
   .rfl
def ayg {imp:Bool}{c:Int×Int}{r:aw}{m:b1}:(Hd imp c r m).1.1=r.1:=by
 unfold Hd;split
 .exact aIb (imp:=imp)
 .rfl
def aIc {c:Int×Int}{r:aw}:(Cf c r).1.1=r.1:=by
 unfold Cf;split
 .rfl
 .split
  .split
   .rfl
   .rfl
  .split
   .rw[anK];rfl
   .rfl
def ajI {c:Int×Int}{r:aw}{m:b1}:∀(j k:Nat) (o:aw),o.1=r.1->(rJ c r m j k o).1.1=r.1
 |0,_,_,h=>h|j+1,k,o,h=>by
  unfold rJ;split
  .exact ajI j (k+1) o h
  .split
   .exact ajI j (k+1) _ (by rw[anK];exact h)
   .rfl
def Gl (r:aw):aw:=(r.1,r.2.1,r.2.1,r.2.2.2)
def aY.Gl {c:Int×Int}{r:aw}(h:aY c r):aY c (Gl r):=by have a:=h.view;exact⟨⟨h.f.cf,h.f.i,h.f.v,by show gC 0 60 r.2.1=true;simp only[gC,aG,bV];omega,h.f.s,h.f.p,h.f.t,h.f.d,h.f.n,h.f.h⟩,h.b⟩
def ajJ (c:Int×Int)(r:aw):aw×Bool:=To c (Gl r) (arK (ask c r).1)
def YS (c:Int×Int)(r:aw):aw×Int :=
 if (ask c r).2=true then (if (ajJ c r).2=true/\(fc c (ajJ c r).1 (ask c r).1).2=true then ((fc c (ajJ c r).1 (ask c r).1).1,0) else (r,4)) else (r,3)
def aC6 {c:Int×Int}{r:aw}(h:aY c r):aY c (ajJ c r).1:=h.Gl.aJS _
def aY.YS {c:Int×Int}{r:aw}(h:aY c r):aY c (YS c r).1:=by
 unfold Tryz.YS;split
 .split
  .exact(aC6 h).arR _
  .exact h
 .exact h
def aJX {c:Int×Int}{r:aw}:(YS c r).1.1=r.1:=by
 unfold YS;split
 .split
  .rw[ag7];exact ajI _ _ _ rfl
  .rfl
 .rfl
def aAG {c:Int×Int}{r:aw}(h:aY c r):JA F0 c r=some ((YS c r).1,(YS c r).2,()):=by
 rw[anb,aH4 h,ai,dX h.bt,ai];unfold YS;cases d:(ask c r).2 with
 |false=>rfl
 |true =>
  obtain⟨_,b,_,_⟩:=aH5 d;obtain⟨e,f⟩:=Ka b;have g:Bn F0 c (r.1,r.2.1,r.2.1,r.2.2.2) (1,0,(ask c r).1,(0,ak,[]),(0,ak,[]),0,0,0,0,0)=some ((ajJ c r).1,(ajJ c r).2,()):=ayb h.Gl (adU e f);dsimp only;rw[g,ai,YP (aC6 h) b,ai,aN,aa,ag rfl];cases (ajJ c r).2 with
  |false=>rw[af (fun a=>by cases a.1)];rfl
  |true =>
   cases (fc c (ajJ c r).1 (ask c r).1).2 with
   |false=>rw[af (fun a=>by cases a.2)];rfl
   |true=>rw[ag ⟨rfl,rfl⟩];rfl
def tN (c:Int×Int)(r:aw):Nat->aw×Int
 |0=>(r,3)|k+1=>if dh (r.2.2.2.2.2.1.getD k b9).2.1=true then tN c r k
  else if (fP c r (r.2.2.2.2.2.1.getD k b9).1 (r.2.2.2.2.2.1.getD k b9).2.1 true).2=true then ((fP c r (r.2.2.2.2.2.1.getD k b9).1 (r.2.2.2.2.2.1.getD k b9).2.1 true).1,0) else (r,3)
def ave (c:Int×Int)(r:aw):aw×Int:=tN c r r.2.2.2.2.2.1.length
def aAH {c:Int×Int}{r:aw}(h:aY c r):∀k,aY c (tN c r k).1
 |0=>h|k+1=>by
  unfold tN;split
  .exact aAH h k
  .split
   .exact h.ax8 _ _ _
   .exact h
def avf {c:Int×Int}{r:aw}:∀k,(tN c r k).1.1=r.1
 |0=>rfl|k+1=>by
  unfold tN;split
  .exact avf k
  .split
   .exact arW
   .rfl
def avg {c:Int×Int}{r:aw}(h:aY c r):∀(k n:Nat),k<=r.2.2.2.2.2.1.length->k<n ->
  vW F0 (pX F0) n (pW ((k:Int)-1) c.1 c.2 r.1 r.2.1 r.2.2.1 r.2.2.2.1.1 r.2.2.2.1.2.1 r.2.2.2.1.2.2.1.1 r.2.2.2.1.2.2.1.2.1 r.2.2.2.1.2.2.1.2.2 r.2.2.2.1.2.2.2 r.2.2.2.2.1 r.2.2.2.2.2.1 r.2.2.2.2.2.2.1.1 r.2.2.2.2.2.2.1.2 r.2.2.2.2.2.2.2 0 0 0 0 0 0 ak ak 0 [] [] [] [] [])
   = some ((tN c r k).1,(tN c r k).2,())
 |0,n+1,b,d=>by rw[F1,aQ (show ¬((0:Nat):Int)-1>=0 by omega),aa,Z8];rfl
 |k+1,n+1,b,d=>by
  have a:k<r.2.2.2.2.2.1.length:=by omega
  have f:=h.f.l.t;have e:=adV h (r.2.2.2.2.2.1[k]).1 (h.l.tq _ (bJ a)).1 true;rw[F1,show((k+1:Nat):Int)-1=(k:Int) by omega,aL (show(k:Int)>=0 by omega),ae,an a,ab,aV a,L4];unfold tN;rw[aJ a,show((r.2.2.2.2.2.1[k]).2.1.toList==ak.toList)=dh (r.2.2.2.2.2.1[k]).2.1 from rfl];cases g:dh (r.2.2.2.2.2.1[k]).2.1 with
  |true =>
   rw[ag rfl,aN,aa,aH (by omega) (by omega)];exact avg h k n (by omega) (by omega)
  |false =>
   rw[af (by decide),ed,ae];refine Ch (nk (fun x=>Option.bind x _) e) ?_;rw[ai];cases (fP c r (r.2.2.2.2.2.1[k]).1 (r.2.2.2.2.2.1[k]).2.1 true).2 with
   |false=>rfl|true=>rw[L4];rfl
def ayh {c:Int×Int}{r:aw}(h:aY c r):EZ F0 c r=some ((ave c r).1,(ave c r).2,()):=by have a:=h.f.l.t;rw[aiZ,aH (by omega) (by omega)];exact avg h r.2.2.2.2.2.1.length F0.n (bF _) (by rw[bz];omega)
def E7 (r:aw)(d:p0):aw:=(r.1,r.2.1,r.2.2.1,r.2.2.2.1,r.2.2.2.2.1,r.2.2.2.2.2.1,d,r.2.2.2.2.2.2.2)
def YT (r:aw)(keep:Int):aw:=E7 r (fN r.2.2.2.2.2.2.1 keep)
def jF (c:Int×Int)(r:aw)(keep:Int):aw:=axZ c (YT r keep)
def aY.YT {c:Int×Int}{r:aw}(h:aY c r)(keep:Int):aY c (YT r keep):=by
 have b:=YL h.f.d keep;have d:=cP.1 h.f.d;have e:fN r.2.2.2.2.2.2.1 keep=(r.2.2.2.2.2.2.1.1.take (Gi r.2.2.2.2.2.2.1 keep).toNat,Gi r.2.2.2.2.2.2.1 keep):=ag h.f.d;refine⟨⟨h.f.cf,h.f.i,h.f.v,h.f.a,h.f.s,h.f.p,h.f.t,?_,h.f.n,h.f.h⟩,?_⟩
 .show fJ (fN r.2.2.2.2.2.2.1 keep)=true;rw[e];refine cP.2 ⟨?_,?_,?_⟩
  .dsimp only;rw[bB];omega
  .dsimp only;omega
  .dsimp only;rw[bB];omega
 .show ∀x∈(fN r.2.2.2.2.2.2.1 keep).1,_;rw[e];exact fun x a=>h.b x (aam a)
def ad1 {c:Int×Int}(a:bw c=true):bh c kg=true:=by unfold bh eW aaj kg;simp only[a,gC];rfl
def aGm {c:Int×Int}{b:List Int}(a:bw c=true):bh c (oh c b).1=true:=by
 unfold oh;split
 .rename_i h;exact h.2.2
 .exact ad1 a
def aAI {c:Int×Int}{b:List Int}(e:bw c=true):∀(f:Nat) (s:bf) (a:Nat),bh c s=true->bh c (Gf c b f s a).1=true
 |0,_,_,h=>h|f+1,s,a,h=>by
  cases d:Ik c b a with
  |none=>rw[iD d];exact h
  |some z =>
   obtain⟨j,k⟩:=z;rw[Dh d];refine aAI e f j k ?_;cases g:rH b a with
   |none=>rw[Dg g]at d;cases d
   |some y =>
    obtain⟨v,l⟩:=y;rw[Df g]at d;split at d
    .cases d
    .split at d
     .cases d
     .split at d
      .have i:=nk Prod.fst (eV d);dsimp only at i;rw[<-i];exact aGm e
      .cases d
def aAJ {c:Int×Int}(a:bw c=true)(b:List Int):bh c (dV c b).1=true:=aAI a _ _ _ (ad1 a)
def aY.aL7 {c:Int×Int}{r:aw}(h:aY c r):aY c (axZ c r):=by
 have b:=aAJ h.f.cf r.2.2.2.2.2.2.1.1;have d:=YM c h.bt.d;have e:=cP.1 h.f.d;obtain⟨f,g,i,j⟩:=cC b;refine⟨⟨h.f.cf,h.f.i,?_,rfl,b,rfl,rfl,?_,aR _,fun x a=>by cases a⟩,fun x a=>h.b x (aam a)⟩
 .show gC 1 60 (arC (dV c r.2.2.2.2.2.2.1.1).1)=true;simp only[gC,aG,bV];unfold arC Hc te
  repeat' split
  all_goals omega
 .show fJ (r.2.2.2.2.2.2.1.1.take (dV c r.2.2.2.2.2.2.1.1).2,((dV c r.2.2.2.2.2.2.1.1).2:Int))=true;refine cP.2 ⟨?_,?_,?_⟩
  .dsimp only;rw[bB];omega
  .dsimp only;omega
  .dsimp only;rw[bB];omega
def aY.jF {c:Int×Int}{r:aw}(h:aY c r)(keep:Int):aY c (jF c r keep):=(h.YT keep).aL7
abbrev db:=Int×Int×Int×b1
def ayi (imp:Bool)(c:Int×Int)(r:aw)(m:b1):aw×Int:=if (Hd imp c r m).2=true/\m.1=4 then ((Hd imp c r m).1,0) else (r,3)
def ad2 (imp:Bool)(c:Int×Int)(r:aw)(d:db):aw×Int :=
 if d.1=1 then YS c r else if d.1=6 then ave c r else if d.1=7 then (if (Cf c r).2=true then ((Cf c r).1,0) else (r,3)) else if d.1=8 then (jF c r d.2.2.1,0) else ayi imp c r d.2.2.2
def aY.ad2 {c:Int×Int}{r:aw}(h:aY c r)(imp:Bool)(d:db):aY c (ad2 imp c r d).1:=by
 unfold Tryz.ad2;split
 .exact h.YS
 .split
  .exact aAH h _
  .split
   .split
    .exact h.aL6
    .exact h
   .split
    .exact h.jF _
    .unfold ayi;split
     .exact h.heard _ _
     .exact h
def aJY {imp:Bool}{c:Int×Int}{r:aw}{d:db}:(ad2 imp c r d).1.1=r.1:=by
 unfold ad2;split
 .exact aJX
 .split
  .exact avf _
  .split
   .split
    .exact aIc
    .rfl
   .split
    .rfl
    .unfold ayi;split
     .exact ayg
     .rfl
def aAK {c:Int×Int}{r:aw}(h:aY c r){d:db}(j:gb d.2.2.2):JB F0 c r d=some ((ad2 true c r d).1,(ad2 true c r d).2,()):=by
 have k:RH F0 c (r.1,r.2.1,r.2.2.1,r.2.2.2.1,r.2.2.2.2.1,r.2.2.2.2.2.1,fN r.2.2.2.2.2.2.1 d.2.2.1,r.2.2.2.2.2.2.2)=some (jF c r d.2.2.1,()):=aGa (h.YT d.2.2.1).bt (h.YT d.2.2.1).ok;rw[ang,dX h.bt,ai,aAG h,ai,ayh h,ai,aGg h,ai,aAl h.bt.d.1,ai,avc h j,ai];dsimp only;rw[k,ai];unfold ad2;by_cases a:d.1=1
 .rw[bd.2 a,ae,ag a]
 .rw[bU.2 a,aa,af a];by_cases b:d.1=6
  .rw[bd.2 b,ae,ag b]
  .rw[bU.2 b,aa,af b];by_cases e:d.1=7
   .rw[bd.2 e,ae,ag e];cases (Cf c r).2<;>rfl
   .rw[bU.2 e,aa,af e];by_cases f:d.1=8
    .rw[bd.2 f,ae,ag f]
    .rw[bU.2 f,aa,af f];unfold ayi;cases (Hd true c r d.2.2.2).2 with
     |false=>rw[af (fun i=>by cases i.1)];rfl
     |true =>
      by_cases g:d.2.2.2.1=4
      .rw[ag ⟨rfl,g⟩,bd.2 g];rfl
      .rw[af (fun i=>g i.2),bU.2 g];rfl
def E8:ah:=((0,0),[],[],[],[])
def avh (c:Int×Int)(x:gD):Prop:=di x.2/\(gF c x.2).2=true/\gC 0 (aj (c.1-1)) x.1=true
def aAL (c:Int×Int)(x:cD):Prop:=gC 0 (aj (c.1-1)) x.2.2=true/\bg x.2.1.data.toList=true/\aE x.2.1.data.toList=x.1
structure aF (w:ah):Prop where
 c:bw w.1=true
 l:ko w.1.1 w.2.1=true
 lf:(w.2.1.length:Int)<=wO w.1
 n:(w.2.2.1.length:Int)=w.1.1
 g:∀r∈w.2.2.1,aY w.1 r
 id:∀(k:Nat) (h:k<w.2.2.1.length),(w.2.2.1[k]).1=(k:Int)
 nl:w.2.2.2.1.length<=60
 nb:∀x∈w.2.2.2.1,avh w.1 x
 sl:w.2.2.2.2.length<=300
 sb:∀x∈w.2.2.2.2,aAL w.1 x
def aF.le7 {w:ah}(h:aF w):4<=w.2.2.1.length/\w.2.2.1.length<=7:=by have:=b5 h.c;have:=h.n;omega
def aF.liars {w:ah}(h:aF w):w.2.1.length<=7:=by have a:=b5 h.c;have:=ajv h.l;omega
def aC7 {c:Int×Int}{x:cD}(h:aAL c x):x.2.1.size<=1048576:=bY (pa h.2.1) (by omega)
def aF.w {w:ah}(h:aF w):PK w :=
 ⟨⟨by have:=h.liars;omega,by have:=h.le7;omega,fun x a=>(h.g x a).l,by have:=h.nl;omega,fun x a=>(h.nb x a).1,by have:=h.sl;omega,fun x a=>aC7 (h.sb x a)⟩,fun r b=>(h.g r b).bt.d⟩
def Kb {U:Type}{l:List U}{k:Nat}(h:k<l.length)(d:U):l.getD k d=l[k]:=aJ h d
def aF.ok {w:ah}(h:aF w):fg w=true:=by
 unfold fg ara JL tc;simp only[aG,ajX,ayA,Tr,ek,eZ];refine⟨h.c,h.l,by have:=h.lf;omega,h.n,by have:=h.nl;omega,by have:=h.sl;omega,fun k a=>?_,fun k a=>?_,fun k a=>?_⟩
 .unfold aq9;rw[Kb a,aG,bd];exact⟨(h.g _ (bJ a)).ok,h.id k a⟩
 .unfold adH;rw[Kb a,aG];exact(h.nb _ (bJ a)).2
 .unfold adI;rw[Kb a,aG,aG,bd];exact h.sb _ (bJ a)
def aF.of {w:ah}(h:fg w=true)(e:∀x∈w.2.2.2.1,di x.2)(f:∀r∈w.2.2.1,∀x∈r.2.2.2.2.2.2.1.1,0<=x/\x<=255):aF w:=by
 unfold fg ara JL tc at h;simp only[aG,ajX,ayA,Tr,ek,eZ]at h;obtain⟨g,i,o,j,p,q,l,m,n⟩:=h;have c:∀k (a:k<w.2.2.1.length),ng w.1 w.2.2.1[k]=true/\(w.2.2.1[k]).1=(k:Int):=fun k a=>by have:=l k a;unfold aq9 at this;rw[Kb a,aG,bd]at this;exact this
 refine⟨g,i,by omega,j,fun r d=>?_,fun k a=>(c k a).2,by omega,fun x b=>?_,by omega,fun x b=>?_⟩
 .obtain⟨k,a,rfl⟩:=ajV d;exact⟨Dl.1 (c k a).1,f _ d⟩
 .obtain⟨k,a,rfl⟩:=ajV b;have:=m k a;unfold adH at this;rw[Kb a,aG]at this;exact⟨e _ b,this⟩
 .obtain⟨k,a,rfl⟩:=ajV b;have:=n k a;unfold adI at this;rw[Kb a,aG,aG,bd]at this;exact this
def bT (w:ah)(a:Int):aw:=w.2.2.1.getD a.toNat ab4
def dB (w:ah)(a:Int)(r:aw):ah:=(w.1,w.2.1,w.2.2.1.set a.toNat r,w.2.2.2)
def aC8 {w:ah}{a:Int}(b:0<=a)(c:a<w.2.2.1.length):bT w a∈w.2.2.1:=by unfold bT;rw[aJ (show a.toNat<w.2.2.1.length by omega)];exact bJ _
def aF.rep {w:ah}(h:aF w){a:Int}(b:0<=a)(c:a<w.2.2.1.length):aY w.1 (bT w a)/\(bT w a).1=a:=by refine⟨h.g _ (aC8 b c),?_⟩;unfold bT;rw[aJ (show a.toNat<w.2.2.1.length by omega),h.id _ (show a.toNat<w.2.2.1.length by omega)];omega
def aF.dB {w:ah}(h:aF w){a:Int}(i:0<=a){r:aw}(d:aY w.1 r)(hi:r.1=a):aF (dB w a r):=by
 refine⟨h.c,h.l,h.lf,by show((w.2.2.1.set a.toNat r).length:Int)=_;rw[oo];exact h.n,fun x b=>?_,fun k f=>?_,h.nl,h.nb,h.sl,h.sb⟩
 .rcases aBg b with b|rfl
  .exact h.g x b
  .exact d
 .have c:k<(w.2.2.1.set a.toNat r).length:=f;have g:((w.2.2.1.set a.toNat r)[k]'c).1=(k:Int):=by
   rw[List.getElem_set];split
   .rename_i e;rw[hi];omega
   .exact h.id k (by rw[oo]at c;exact c)
  exact g
def aES {c:Int×Int}{q:bZ}(d:bg q.2.1.data.toList=true)(e:q.2.1.data.toList≠[]->aE q.2.1.data.toList=q.1){id:Int}(hi:gC 0 (aj (c.1-1)) id=true):∀x∈Vl id q,aAL c x:=by
 intro x a;unfold Vl at a;cases b:dh q.2.1 with
 |true=>rw[b,ag rfl]at a;cases a
 |false =>
  rw[b,af (by decide)]at a;split at a
  .rw[fq.1 a];refine⟨hi,d,e fun f=>?_⟩;rw[(rI _).2 f]at b;cases b
  .cases a
def aId {c:Int×Int}{m:b1}(e:c8 c m=true){id:Int}(hi:gC 0 (aj (c.1-1)) id=true):∀x∈cH id m,aAL c x:=by
 have a:=ag4 e;have b:∀q:bZ,eW c q=true->∀x∈Vl id q,aAL c x:=fun q f=>by obtain⟨_,g,h,_⟩:=ka f;exact aES g (fun _=>h) hi
 rcases a.k with k|k|k|k
 .have d:=a.b k;simp only[fK,aG]at d;unfold cH;rw[af (by omega),af (by omega),ag k];exact b _ d.1
 .obtain⟨_,_,_,_,_,i,j⟩:=agL (a.p k).1;unfold cH;rw[af (by omega),ag k];exact aES i j hi
 .unfold cH;rw[af (by omega),af (by omega),af (by omega)];exact b _ (a.v k).2.1
 .unfold cH;rw[ag k];exact fun x l=>by cases l
def aC9 {l:List cD}{y x:cD}(h:x∈Dn l y):x∈l\/x=y:=by
 unfold Dn at h;split at h
 .rcases gQ.1 h with h|h
  .exact .inl h
  .exact .inr (fq.1 h)
 .exact .inl h
def arX:∀{ys l:List cD} {x:cD},x∈ys.foldl Dn l->x∈l\/x∈ys
 |[],_,_,h=>.inl h|y::ys,l,x,h=>by
  rcases arX (ys:=ys) h with h|h
  .rcases aC9 h with h|rfl
   .exact .inl h
   .exact .inr p3
  .exact .inr (jO _ h)
def YU {id:Int}:∀{ps:List jC} {l:List cD} {x:cD},x∈ZE id ps l->x∈l\/∃p∈ps,x∈cH id p.2
 |[],_,_,h=>.inl h|p::ps,l,x,h=>by
  rcases YU (ps:=ps) h with h|⟨q,a,h⟩
  .rcases arX h with h|h
   .exact .inl h
   .exact .inr ⟨p,p3,h⟩
  .exact .inr ⟨q,jO _ a,h⟩
def ej {w:ah}{id:Int}(h:id∈aD w):0<=id/\id<w.2.2.1.length:=by have:=ajp w.2.1 w.2.2.1.length id h;exact this
def aF.gC {w:ah}(h:aF w){a:Int}(c:0<=a)(d:a<w.2.2.1.length):gC 0 (aj (w.1.1-1)) a=true:=by have b:=b5 h.c;have e:=h.n;rw[Yt b.1 b.2.1];simp only[Tryz.gC,aG,bV];omega
def aF.aDa {w:ah}(h:aF w){a:Int}(b:Tryz.gC 0 (aj (w.1.1-1)) a=true):0<=a/\a<w.2.2.1.length:=by have c:=b5 h.c;have d:=h.n;rw[Yt c.1 c.2.1]at b;simp only[Tryz.gC,aG,bV]at b;omega
def aF.oR {w:ah}(h:aF w)(id:Int){list:List jC}(d:∀p∈list,c8 w.1 p.2=true):aF (oR w id list):=by
 unfold Tryz.oR;by_cases b:id∈aD w
 .rw[ag b];have c:=ej b;refine⟨h.c,h.l,h.lf,h.n,h.g,h.id,h.nl,h.nb,alf id h.sl,fun x a=>?_⟩;rcases YU a with a|⟨p,e,a⟩
  .exact h.sb x a
  .exact aId (d p e) (h.gC c.1 c.2) x a
 .rw[af b];exact h
def avi {c:Int×Int}{m:b1}(h:c8 c m=true){a:Int}(b:gC 0 (aj (c.1-1)) a=true):avh c (a,Dj m):=by have d:=ary h;exact⟨⟨by dsimp only;omega,d.2.1⟩,by rw[ajw h],b⟩
def arY {c:Int×Int}:∀{ps:List jC} {l:List gD} {x:gD},x∈arV c ps l->x∈l\/avh c x
 |[],_,_,h=>.inl h|p::ps,l,x,h=>by
  rcases arY (ps:=ps) h with h|h
  .unfold acg at h;split at h
   .rename_i a;rcases gQ.1 h with h|h
    .exact .inl h
    .rw[fq.1 h];exact .inr (avi a.2.1 a.2.2)
   .exact .inl h
  .exact .inr h
def arZ {c:Int×Int}:∀{ps:List jC} {l:List gD},l.length<=60->(arV c ps l).length<=60
 |[],_,h=>h|p::ps,l,h=>arZ (ps:=ps) (ajH h p)
def aF.send {w:ah}(h:aF w)(list:List jC):aF (BK w list) :=
 ⟨h.c,h.l,h.lf,h.n,h.g,h.id,arZ h.nl,fun x a=>(arY a).elim (h.nb x) (fun h=>h),h.sl,h.sb⟩
def aF.YV {w:ah}(h:aF w){a:List gD}(b:a.length<=60)(c:∀x∈a,avh w.1 x):aF (w.1,w.2.1,w.2.2.1,a,w.2.2.2.2) :=
 ⟨h.c,h.l,h.lf,h.n,h.g,h.id,b,c,h.sl,h.sb⟩
def aY.ayj {c:Int×Int}{r:aw}(h:aY c r):∀p∈r.2.2.2.2.2.2.2,c8 c p.2=true:=fun p a=>aAr (h.f.h p a)
def aY.aKK {c:Int×Int}{r:aw}(h:aY c r):∀p∈r.2.2.2.2.2.2.2,gb p.2:=fun p a=>ax5 (h.ayj p a)
def Good (w:ah):Prop:=PK w/\(fg w=true->aF w)
def aF.aDb {w:ah}(h:aF w):Good w:=⟨h.w,fun _=>h⟩
def aF.aKL {w:ah}(h:aF w){a:List gD}(f:a.length<=61)(c:∀x∈a,avh w.1 x):Good (w.1,w.2.1,w.2.2.1,a,w.2.2.2.2) :=
 ⟨⟨⟨h.w.l.l,h.w.l.r,h.w.l.rl,by show a.length<=_;omega,fun x b=>(c x b).1,h.w.l.s,h.w.l.st⟩,h.w.b⟩,fun d=>aF.of d (fun x b=>(c x b).1) fun r e=>(h.g r e).b⟩
def JS {w:ah}{a:Int}(c:0<=a)(e:a<w.2.2.1.length)(d:aw):aI w.2.2.1 a d=bT w a:=by
 have b:a.toNat<w.2.2.1.length:=by omega
 unfold bT;rw[aJ b];exact aJ b d
def aET (l:List cD)(id:Int)(list:List jC):Bool:=list.all fun p=>(cH id p.2).all fun x=>kj l x.1 x.2.1 x.2.2
def bb (w:ah)(a:Int):List jC:=(bT w a).2.2.2.2.2.2.2
def lT (w:ah)(a:Int):ah:=dB (oR w a (bb w a)) a (R3 (bT w a))
def ach (w:ah)(a:Int):ah×Int :=
 if aET (oR w a (bb w a)).2.2.2.2 a (bb w a)=true then (if w.2.2.2.1.length+(bb w a).length<=60 then (BK (lT w a) (bb w a),0) else (w,4)) else (w,4)
def ar0 (w:ah)(id:Int)(list:List jC):(oR w id list).1=w.1/\(oR w id list).2.2.1=w.2.2.1/\(oR w id list).2.2.2.1=w.2.2.2.1:=by unfold oR;split<;>exact⟨rfl,rfl,rfl⟩
def aF.lT {w:ah}(h:aF w){a:Int}(b:0<=a)(d:a<w.2.2.1.length):aF (lT w a):=by obtain⟨c,f⟩:=h.rep b d;have g:=h.oR a (list:=bb w a) c.ayj;have e:=(ar0 w a (bb w a)).1;exact g.dB b (by rw[e];exact c.R3) f
def ayk {w:ah}(h:aF w){a:Int}(c:0<=a)(i:a<w.2.2.1.length):EJ F0 w a=some ((ach w a).1,(ach w a).2,()):=by
 obtain⟨f,C⟩:=h.rep c i;have j:=f.aKK;have D:(bb w a).length<=30:=f.f.n;have l:=h.oR a (list:=bb w a) f.ayj;have t:=ax9 f;have u:=aC5 h.w h.sl a (list:=bb w a) (by omega) j;have o:=(ar0 w a (bb w a)).2.1;have d:=h.lT c i;rw[aiE,kf c (by omega),ab,JS c i,t,ai];refine Ch (nk (fun x=>Option.bind x _) u) ?_;rw[ai];dsimp only;generalize v:R3 (bT w a)=S;generalize q:oR w a (bb w a)=O at l o d;have y:∀n,fC F0 (.exit 0) (wH a w.1.1 w.1.2 w.2.1 w.2.2.1 w.2.2.2.1 w.2.2.2.2 0 0 S.1 S.2.1 S.2.2.1 S.2.2.2.1.1 S.2.2.2.1.2.1 S.2.2.2.1.2.2.1.1 S.2.2.2.1.2.2.1.2.1 S.2.2.2.1.2.2.2 S.2.2.2.2.2.2.1.2 O.1.1 O.1.2 (bb w a) [] [] [] [] S.2.2.2.1.2.2.1.2.2 S.2.2.2.2.1 S.2.2.2.2.2.1 S.2.2.2.2.2.2.1.1 S.2.2.2.2.2.2.2 O.2.1 O.2.2.1 O.2.2.2.1 O.2.2.2.2)=(fun _:Nat=>some (if w.2.2.2.1.length+(bb w a).length<=60 then (BK (lT w a) (bb w a),(0:Int),()) else (w,4,()))) n:=fun n=>by
  have r:dB O a S=lT w a:=by unfold lT;rw[q,v]
  rw[<-r]at d;have z:Rh F0 ((O.1.1,O.1.2),O.2.1,O.2.2.1.set a.toNat (S.1,S.2.1,S.2.2.1,(S.2.2.2.1.1,S.2.2.2.1.2.1,(S.2.2.2.1.2.2.1.1,S.2.2.2.1.2.2.1.2.1,S.2.2.2.1.2.2.1.2.2),S.2.2.2.1.2.2.2),S.2.2.2.2.1,S.2.2.2.2.2.1,(S.2.2.2.2.2.2.1.1,S.2.2.2.2.2.2.1.2),S.2.2.2.2.2.2.2),O.2.2.2.1,O.2.2.2.2) (bb w a)=some (BK (dB O a S) (bb w a),()):=by have:=aGl d.w d.nl (list:=bb w a) (by omega) j;rw[d.ok,ag rfl]at this;exact this
  have E:=h.nl;rw[Z3,aH (by omega) (by omega),kf c (by rw[o];omega),ab,z,ai];by_cases s:w.2.2.2.1.length+(bb w a).length<=60
  .rw[aQ (show ¬(w.2.2.2.1.length:Int)+(bb w a).length>60 by omega),aa];dsimp only;rw[ag s,r]
  .rw[aL (show(w.2.2.2.1.length:Int)+(bb w a).length>60 by omega),ae];dsimp only;rw[af s]
 have A:=er (fun n k=>oJ F0 (fC F0) n (lg a ((bb w a).length:Int) k w.1.1 w.1.2 w.2.1 w.2.2.1 w.2.2.2.1 w.2.2.2.2 0 0 S.1 S.2.1 S.2.2.1 S.2.2.2.1.1 S.2.2.2.1.2.1 S.2.2.2.1.2.2.1.1 S.2.2.2.1.2.2.1.2.1 S.2.2.2.1.2.2.2 S.2.2.2.2.2.2.1.2 O.1.1 O.1.2 (bb w a) [] [] [] [] S.2.2.2.1.2.2.1.2.2 S.2.2.2.2.1 S.2.2.2.2.2.1 S.2.2.2.2.2.2.1.1 S.2.2.2.2.2.2.2 O.2.1 O.2.2.1 O.2.2.2.1 O.2.2.2.2)) (bb w a).length
  (fun k=>(cH a ((bb w a).getD k axK).2).all fun x=>kj O.2.2.2.2 x.1 x.2.1 x.2.2) (some (if w.2.2.2.1.length+(bb w a).length<=60 then (BK (lT w a) (bb w a),(0:Int),()) else (w,4,()))) (some (w,4,()))
  (fun n k e=>?_) (fun n=>?_) F0.n (by rw[bz];omega)
 .refine Ch A ?_;rw[Gc (bb w a) (fun p=>(cH a p.2).all fun x=>kj O.2.2.2.2 x.1 x.2.1 x.2.2) axK];unfold ach aET;rw[q];cases ((bb w a).all fun p=>(cH a p.2).all fun x=>kj O.2.2.2.2 x.1 x.2.1 x.2.2) with
  |false=>rfl
  |true =>
   rw[ag rfl,ag rfl];split<;>rfl
 .have F:=adZ a ((bb w a)[k]).2;rw[FR,aM e,ae,an e,ab,aV e,ale (j _ (bJ e)),ai,aJ e];have B:=er (fun m b=>vF F0 (pS F0 (fC F0) n) m (pR a ((bb w a).length:Int) (k:Int) ((cH a ((bb w a)[k]).2).length:Int) b w.1.1 w.1.2 w.2.1 w.2.2.1 w.2.2.2.1 w.2.2.2.2 0 0 S.1 S.2.1 S.2.2.1 S.2.2.2.1.1 S.2.2.2.1.2.1 S.2.2.2.1.2.2.1.1 S.2.2.2.1.2.2.1.2.1 S.2.2.2.1.2.2.2 S.2.2.2.2.2.2.1.2 O.1.1 O.1.2 (bb w a) (cH a ((bb w a)[k]).2) [] [] [] [] S.2.2.2.1.2.2.1.2.2 S.2.2.2.2.1 S.2.2.2.2.2.1 S.2.2.2.2.2.2.1.1 S.2.2.2.2.2.2.2 O.2.1 O.2.2.1 O.2.2.2.1 O.2.2.2.2)) (cH a ((bb w a)[k]).2).length
   (fun b=>(fun x:cD=>kj O.2.2.2.2 x.1 x.2.1 x.2.2) ((cH a ((bb w a)[k]).2).getD b Mr)) (oJ F0 (fC F0) n (lg a ((bb w a).length:Int) ((k+1:Nat):Int) w.1.1 w.1.2 w.2.1 w.2.2.1 w.2.2.2.1 w.2.2.2.2 0 0 S.1 S.2.1 S.2.2.1 S.2.2.2.1.1 S.2.2.2.1.2.1 S.2.2.2.1.2.2.1.1 S.2.2.2.1.2.2.1.2.1 S.2.2.2.1.2.2.2 S.2.2.2.2.2.2.1.2 O.1.1 O.1.2 (bb w a) [] [] [] [] S.2.2.2.1.2.2.1.2.2 S.2.2.2.2.1 S.2.2.2.2.2.1 S.2.2.2.2.2.2.1.1 S.2.2.2.2.2.2.2 O.2.1 O.2.2.1 O.2.2.2.1 O.2.2.2.2)) (some (w,4,()))
   (fun m b g=>?_) (fun m=>?_) F0.n (by rw[bz];omega)
  .refine Ch B ?_;rw[Gc (cH a ((bb w a)[k]).2) (fun x:cD=>kj O.2.2.2.2 x.1 x.2.1 x.2.2) Mr]
  .have G:=l.sl;rw[FQ,aM g,ae,an g,ab,aV g,Dm (by omega),ai,ade,adf,al (by omega),aJ g];rcases Bool.eq_false_or_eq_true (kj O.2.2.2.2 (cH a ((bb w a)[k]).2)[b].1 (cH a ((bb w a)[k]).2)[b].2.1 (cH a ((bb w a)[k]).2)[b].2.2) with hs|hs
   .simp only[hs,aN,aa,gR]
   .simp only[hs,ed,ae];rfl
  .rw[FQ,aC,aa,Z2,al (by omega)]
 .rw[FR,aC,aa];exact y n
def ad3 (a:List gD)(k:Nat):List gD:=a.take k++a.drop (k+1)
def cU (w:ah)(a:Int):gD:=w.2.2.2.1.getD a.toNat aCn
def YV (w:ah)(a:List gD):ah:=(w.1,w.2.1,w.2.2.1,a,w.2.2.2.2)
def O9 (w:ah)(a:Int):ah:=YV w (ad3 w.2.2.2.1 a.toNat)
def ajK (imp:Bool)(w:ah)(x:gD):aw:=(Hd imp w.1 (bT w x.1) (gF w.1 x.2).1).1
def ag8 (imp:Bool)(w:ah)(a:Int):ah:=if (cU w a).1∈aD w then dB (O9 w a) (cU w a).1 (ajK imp w (cU w a)) else O9 w a
def ar1 (w:ah)(d:db):ah×Int :=
 if d.1=3 then (ag8 true w d.2.1,0) else if d.1=4 then (O9 w d.2.1,0) else if d.1=5 then (YV w (w.2.2.2.1++[cU w d.2.1]),0)
 else if He w.1 w.2.1 w.2.2.2.2 d.2.2.2=true then (YV w (w.2.2.2.1++[(d.2.1,Dj d.2.2.2)]),0) else (w,5)
def ad4 {a:List gD}{k:Nat}{x:gD}(h:x∈ad3 a k):x∈a:=by
 rcases gQ.1 h with h|h
 .exact aam h
 .exact avD h
def aDc (a:List gD)(k:Nat):(ad3 a k).length<=a.length:=by unfold ad3;rw[aK,bB,bc];omega
def aF.O9 {w:ah}(h:aF w)(a:Int):aF (O9 w a):=h.YV (bY (aDc _ _) h.nl) fun x b=>h.nb x (ad4 b)
def aF.ag8 {w:ah}(h:aF w)(imp:Bool)(a:Int):aF (ag8 imp w a):=by
 unfold Tryz.ag8;split
 .rename_i c;have b:=ej c;obtain⟨d,hid⟩:=h.rep b.1 b.2;exact(h.O9 a).dB b.1 (d.heard imp _) (by unfold ajK;rw[ayg];exact hid)
 .exact h.O9 a
def aF.aJZ {w:ah}(h:aF w){a:Int}(b:0<=a)(c:a<w.2.2.2.1.length):avh w.1 (cU w a):=by refine h.nb _ ?_;unfold cU;rw[aJ (show a.toNat<w.2.2.2.1.length by omega)];exact bJ _
def ar2 {c:Int×Int}{b:List Int}(h:(gF c b).2=true):gb (gF c b).1/\c8 c (gF c b).1=true:=by
 have:c8 c (gF c b).1=true:=by
  unfold gF fin at h ⊢;split at h
  .rename_i a;rw[ag a];exact a.2.2
  .cases h
 exact⟨ax5 this,this⟩
def alh {w:ah}(h:aF w){d:db}(i:gb d.2.2.2)(l:d.1=3\/d.1=4\/d.1=5->0<=d.2.1/\d.2.1<w.2.2.2.1.length):n8 F0 w d=some ((ar1 w d).1,(ar1 w d).2,()):=by
 have r:=h.nl;have hlen:=Gk w;have s:=h.le7;rw[am5,lP h.w,ai];dsimp only;unfold ar1;by_cases k:d.1=3\/d.1=4\/d.1=5
 .obtain⟨f,j⟩:=l k;have b:=h.aJZ f j;obtain⟨m,t⟩:=ar2 b.2.1;have n:aj (d.2.1+1)=d.2.1+1:=aH (by omega) (by omega);have o:(d.2.1+1).toNat=d.2.1.toNat+1:=by omega
  have ex:∀a:gD,aI w.2.2.2.1 d.2.1 a=cU w d.2.1:=fun a=>by
   unfold cU;have c:d.2.1.toNat<w.2.2.2.1.length:=by omega
   rw[aJ c];show w.2.2.2.1.getD d.2.1.toNat a=_;exact aJ c a
  obtain⟨t0,t1⟩:=h.aDa b.2.2;obtain⟨p,hid⟩:=h.rep t0 t1;have q:∀a:aw,J1 F0 w.1 (aI w.2.2.1 (cU w d.2.1).1 a) (gF w.1 (cU w d.2.1).2).1=some ((Hd true w.1 (bT w (cU w d.2.1).1) (gF w.1 (cU w d.2.1).2).1).1,(Hd true w.1 (bT w (cU w d.2.1).1) (gF w.1 (cU w d.2.1).2).1).2,()):=fun a=>by
   have c:(cU w d.2.1).1.toNat<w.2.2.1.length:=by omega
   have:aI w.2.2.1 (cU w d.2.1).1 a=bT w (cU w d.2.1).1:=by unfold bT;rw[aJ c];exact aJ c a
   rw[this];exact avc p m
  rw[kf f j,ab,n,arp f (by omega) (by omega),ab,ab,ab,ex,adG b.1,ai,b.2.1,ae,nu h.w.l,ai,eD (by dsimp only;omega),ai,kf t0 t1,ab,q,ai,agP b.1.1,ai,ar (by omega) (by omega) (by first|omega|(simp only[aK,aW,bm];omega)|(rw[bc,bB];omega)),ab];dsimp only;rw[ab,o];rcases k with k|k|k
  .rw[bd.2 k,ae,ag k];unfold ag8;by_cases e:(cU w d.2.1).1∈aD w
   .rw[aL e,ae,ag e];rfl
   .rw[aQ e,aa,af e];rfl
  .rw[bU.2 (show d.1≠3 by omega),aa,bd.2 k,ae,af (by omega),ag k];rfl
  .rw[bU.2 (show d.1≠3 by omega),aa,bU.2 (show d.1≠4 by omega),aa,bd.2 k,ae,af (by omega),af (by omega),ag k];rfl
 .have u:=h.liars;have v:=h.sl;rw[bU.2 (show d.1≠3 by omega),aa,bU.2 (show d.1≠4 by omega),aa,bU.2 (show d.1≠5 by omega),aa,af (by omega),af (by omega),af (by omega),aAD (by omega) (by omega) i,ai,ab9 i,ai,ar (by omega) (by omega) (by first|omega|(simp only[aK,aW,bm];omega)|(rw[bc,bB];omega)),ab];cases g:He w.1 w.2.1 w.2.2.2.2 d.2.2.2 with
  |false=>rfl
  |true =>
   have dd:c8 w.1 d.2.2.2=true:=by unfold He at g;rw[aG]at g;exact g.1
   dsimp only;rw[show agQ w.1 d.2.2.2=Dj d.2.2.2 from ag dd];rfl
def Il (d:db):Bool:=(d.1==3) || ((d.1==4) || (d.1==5))
def fe {d:db}:Il d=true↔d.1=3\/d.1=4\/d.1=5:=by simp[Il]
def MB (w:ah)(d:db):Bool :=
 if Il d=true then gC 0 (aj ((w.2.2.2.1.length:Int)-1)) d.2.1 else if d.1=10 then gC 0 (aj (w.1.1-1)) d.2.1 else decide (d.2.1∈aD w)
def Kc {w:ah}{d:db}(h:Il d=true):MB w d=gC 0 (aj ((w.2.2.2.1.length:Int)-1)) d.2.1:=ag h
def ajL {w:ah}{d:db}(h:¬Il d=true)(a:d.1=10):MB w d=gC 0 (aj (w.1.1-1)) d.2.1:=by unfold MB;rw[af h,ag a]
def x6 {w:ah}{d:db}(h:¬Il d=true)(a:¬d.1=10):MB w d=decide (d.2.1∈aD w):=by unfold MB;rw[af h,af a]
def aAM {w:ah}(h:aF w)(d:db):Jj F0 w d=some (MB w d,()):=by
 have hlen:=Gk w;have i:=h.le7;rw[amM,bR,ai,bR,ai,nu h.w.l,ai,eD (by dsimp only;omega),ai];by_cases a:d.1=3
 .rw[bd.2 a,ae,Kc (fe.2 (.inl a))]
 .rw[bU.2 a,aa];by_cases b:d.1=4
  .rw[bd.2 b,ae,Kc (fe.2 (.inr (.inl b)))]
  .rw[bU.2 b,aa];by_cases c:d.1=5
   .rw[bd.2 c,ae,Kc (fe.2 (.inr (.inr c)))]
   .have g:¬Il d=true:=fun f=>(fe.1 f).elim a (fun f=>f.elim b c)
    rw[bU.2 c,aa];by_cases e:d.1=10
    .rw[bd.2 e,ae,ajL g e]
    .rw[bU.2 e,aa,x6 g e]
def ag9 (imp:Bool)(w:ah)(d:db):ah×Int:=(dB w d.2.1 (ad2 imp w.1 (bT w d.2.1) d).1,(ad2 imp w.1 (bT w d.2.1) d).2)
def ano (w:ah)(d:db):ah×Int:=if d.1=2 then ach w d.2.1 else if Il d=true\/d.1=10 then ar1 w d else ag9 true w d
def aAN (w:ah)(x:ah×Int):ah×Int:=if x.2=0 then (if fg x.1=true then (x.1,0) else (w,4)) else (w,x.2)
def doI (w:ah)(d:db):ah×Int:=if gC 1 10 d.1=true then (if MB w d=true then aAN w (ano w d) else (w,2)) else (E8,1)
def R7 {w:ah}(h:aF w){a:Int}(b:gC 0 (aj ((w.2.2.2.1.length:Int)-1)) a=true):0<=a/\a<w.2.2.2.1.length:=by have c:=h.nl;rw[aH (by omega) (by omega)]at b;simp only[gC,aG,bV]at b;omega
def aF.ag9 {w:ah}(h:aF w)(imp:Bool){d:db}(a:0<=d.2.1)(b:d.2.1<w.2.2.1.length):aF (ag9 imp w d).1:=by obtain⟨c,e⟩:=h.rep a b;exact h.dB a (c.ad2 imp d) (by rw[aJY];exact e)
def aEU {w:ah}(h:aF w){a:Int}(b:0<=a)(c:a<w.2.2.1.length):aF (ach w a).1:=by
 unfold ach;split
 .split
  .exact(h.lT b c).send _
  .exact h
 .exact h
def ZF {w:ah}(h:aF w){d:db}(f:Il d=true->0<=d.2.1/\d.2.1<w.2.2.2.1.length)(g:¬Il d=true->gC 0 (aj (w.1.1-1)) d.2.1=true):Good (ar1 w d).1:=by
 have m:=h.nl;unfold ar1;split
 .exact(h.ag8 true _).aDb
 .split
  .exact(h.O9 _).aDb
  .split
   .rename_i b;obtain⟨i,j⟩:=f (fe.2 (.inr (.inr b)));refine h.aKL (by rw[aK,cR];omega) fun x a=>?_
    rcases gQ.1 a with a|a
    .exact h.nb x a
    .rw[fq.1 a];exact h.aJZ i j
   .split
    .rename_i k l b c;have dd:c8 w.1 d.2.2.2=true:=by unfold He at c;rw[aG]at c;exact c.1
     refine h.aKL (by rw[aK,cR];omega) fun x a=>?_
     rcases gQ.1 a with a|a
     .exact h.nb x a
     .rw[fq.1 a];exact avi dd (g fun e=>(fe.1 e).elim k (fun e=>e.elim l b))
    .exact h.aDb
def aIe {w:ah}(c:PK w){x:ah×Int}(d:Good x.1) :
  br (x.2==0) ((b4 F0 x.1).bind fun e=>br (!e.1) (br ((4:Int) != 0) ((aS F0 w).bind fun b=>some (b.1,(4:Int),())) (some (x.1,0,()))) (br (x.2 != 0) ((aS F0 w).bind fun b=>some (b.1,x.2,())) (some (x.1,0,())))) (br (x.2 != 0) ((aS F0 w).bind fun b=>some (b.1,x.2,())) (some (x.1,0,())))=some ((aAN w x).1,(aAN w x).2,()):=by
 rw[gP d.1.l,ai,lP c,ai,ai];unfold aAN;by_cases a:x.2=0
 .rw[bd.2 a,ae,ag a,show(x.2 != 0)=false by simp[a]];cases fg x.1<;>rfl
 .rw[bU.2 a,aa,af a,show(x.2 != 0)=true by simp[a]];rfl
def aIf {w:ah}(h:aF w){d:db}(j:gb d.2.2.2):vZ F0 w d=some ((doI w d).1,(doI w d).2,()):=by
 have t:=h.le7;rw[aB6,gP h.w.l,ai,h.ok,aN,aa,bR,ai,aAM h,ai,lP h.w];unfold doI;cases u:gC 1 10 d.1 with
 |false=>rfl
 |true =>
  rw[ag rfl,aN,aa];cases c:MB w d with
  |false=>rfl
  |true =>
   rw[ag rfl,aN,aa];simp only[ai];have tail:∀x:ah×Int,Good x.1->_:=fun x p=>aIe h.w p
   rw[lP h.w]at tail;simp only[ai]at tail;unfold ano;by_cases i:d.1=2
   .have a:d.2.1∈aD w:=by rw[x6 (fun a=>by have:=fe.1 a;omega) (by omega)]at c;exact nj c
    obtain⟨e,f⟩:=ej a;rw[bd.2 i,ae,ag i,ayk h e f,ai];exact tail _ (aEU h e f).aDb
   .rw[bU.2 i,aa,af i];by_cases b:Il d=true
    .have k:gC 0 (aj ((w.2.2.2.1.length:Int)-1)) d.2.1=true:=by rw[Kc b]at c;exact c
     have m:=R7 h k;have l:=alh h j (fun _=>m);have q:Good (ar1 w d).1:=ZF h (fun _=>m) (fun a=>absurd b a);rw[ag (.inl b),l,ai];have fin:=tail _ q;by_cases n:d.1=3
     .rw[bd.2 n,ae];exact fin
     .rw[bU.2 n,aa];by_cases o:d.1=4
      .rw[bd.2 o,ae];exact fin
      .have r:d.1=5:=by have:=fe.1 b;omega
       rw[bU.2 o,aa,bd.2 r,ae];exact fin
    .have v:¬(d.1=3\/d.1=4\/d.1=5):=fun a=>b (fe.2 a)
     rw[bU.2 (show d.1≠3 by omega),aa,bU.2 (show d.1≠4 by omega),aa,bU.2 (show d.1≠5 by omega),aa];by_cases g:d.1=10
     .have k:gC 0 (aj (w.1.1-1)) d.2.1=true:=by rw[ajL b g]at c;exact c
      have l:=alh h j (fun a=>absurd (fe.2 a) b);rw[bd.2 g,ae,ag (.inr g),l,ai];exact tail _ (ZF h (fun a=>absurd a b) (fun _=>k))
     .have a:d.2.1∈aD w:=by rw[x6 b g]at c;exact nj c
      obtain⟨e,f⟩:=ej a;obtain⟨s,y⟩:=h.rep e f;rw[bU.2 g,aa,af (fun a=>a.elim b g),kf e (by omega),ab,JS e f,aAK s j,ai,ab];exact tail (ag9 true w d) (h.ag9 true e f).aDb
def Vm (w:ah)(d:db):ah:=if (doI w d).2=0 then (doI w d).1 else w
def YW (w:ah)(list:List db):ah:=list.foldl Vm w
def anL {w:ah}(h:aF w)(d:db):aF (Vm w d):=by
 unfold Vm;split
 .rename_i a;unfold doI at a ⊢;cases l:gC 1 10 d.1 with
  |false=>rw[l,af (by decide)]at a;exact absurd (show(1:Int)=0 from a) (by decide)
  |true =>
   rw[l,ag rfl]at a;rw[ag rfl];cases c:MB w d with
   |false=>rw[c,af (by decide)]at a;exact absurd (show(2:Int)=0 from a) (by decide)
   |true =>
    rw[c,ag rfl]at a;rw[ag rfl];have o:Good (ano w d).1:=by
     unfold ano;by_cases m:d.1=2
     .have b:d.2.1∈aD w:=by rw[x6 (fun b=>by have:=fe.1 b;omega) (by omega)]at c;exact nj c
      obtain⟨g,i⟩:=ej b;rw[ag m];exact(aEU h g i).aDb
     .rw[af m];by_cases e:Il d=true
      .have j:gC 0 (aj ((w.2.2.2.1.length:Int)-1)) d.2.1=true:=by rw[Kc e]at c;exact c
       rw[ag (.inl e)];exact ZF h (fun _=>R7 h j) (fun b=>absurd e b)
      .by_cases f:d.1=10
       .have j:gC 0 (aj (w.1.1-1)) d.2.1=true:=by rw[ajL e f]at c;exact c
        rw[ag (.inr f)];exact ZF h (fun b=>absurd b e) (fun _=>j)
       .have b:d.2.1∈aD w:=by rw[x6 e f]at c;exact nj c
        obtain⟨g,i⟩:=ej b;rw[af (fun b=>b.elim e f)];exact(h.ag9 true g i).aDb
    unfold aAN at a ⊢;by_cases k:(ano w d).2=0
    .rw[ag k]at a ⊢;cases n:fg (ano w d).1 with
     |false=>rw[n,af (by decide)]at a;exact absurd (show(4:Int)=0 from a) (by decide)
     |true=>rw[ag rfl];exact o.2 n
    .rw[af k]at a;exact absurd a k
 .exact h
def aAO:∀{list:List db} {w:ah},aF w->aF (YW w list)
 |[],_,h=>h|d::list,w,h=>aAO (list:=list) (anL h d)
def aGn {w:ah}(h:aF w){list:List db}(t:list.length<=500)(p:∀d∈list,gb d.2.2.2):∃a:List Int,a.length=list.length/\lO F0 w list=some (YW w list,a,()):=by
 rw[atw,lP h.w,ai,gP h.w.l,ai,h.ok,aN,aa,aQ (show ¬(list.length:Int)>500 by omega),aa];have key:∀(b k:Nat) (z:ah) (f:List Int) (n:Nat),k+b=list.length->aF z->f.length=k->b<n->∃a:List Int,a.length=list.length /\
   Bq F0 (L6 F0) n (rC list (list.length:Int) (k:Int) 0 0 z.1.1 z.1.2 z.2.1 z.2.2.1 z.2.2.2.1 z.2.2.2.2 f [] [] [] [])=some (YW z (list.drop k),a,()):=by
  intro b
  induction b with
  |zero =>
   intro k z f n q g j r;obtain⟨n,rfl⟩:∃m,n=m+1:=⟨n-1,by omega⟩;obtain rfl:k=list.length:=by omega
   rw[OJ,aC,aa,ai2,VM];exact⟨f,j,rfl⟩
  |succ b l =>
   intro k z f n q g j r;obtain⟨n,rfl⟩:∃m,n=m+1:=⟨n-1,by omega⟩;have c:k<list.length:=by omega
   have s:=aIf g (p _ (bJ c));rw[OJ,aM c,ae,an c,ab,aV c,show(((z.1.1,z.1.2),z.2.1,z.2.2.1,z.2.2.2.1,z.2.2.2.2):ah)=z from rfl,s,ai,ar (by omega) (by omega) (by first|omega|(simp only[aK,aW,bm];omega)|(rw[bc,bB];omega)),ab,ab,al (by omega),VK c];have o:=anL g list[k];show ∃a:List Int,_/\_=some (YW (Vm z list[k]) (list.drop (k+1)),a,());by_cases i:(doI z list[k]).2=0
   .have e:Vm z list[k]=(doI z list[k]).1:=ag i;rw[e]at o ⊢;rw[bd.2 i,ae];exact l (k+1) _ _ n (by omega) o (by rw[aK,cR];omega) (by omega)
   .have e:Vm z list[k]=z:=af i;rw[e];rw[bU.2 i,aa];exact l (k+1) _ _ n (by omega) g (by rw[aK,cR];omega) (by omega)
 exact key list.length 0 w [] F0.n (by omega) h rfl (by rw[bz];omega)
def aGo {w:ah}(h:aF w){list:List db}(b:list.length<=500)(c:∀d∈list,gb d.2.2.2):∃a,lO F0 w list=some (YW w list,a,()):=by obtain⟨a,_,h⟩:=aGn h b c;exact⟨a,h⟩
def aha (w:ah)(x:ah×Int):ah×Int×ah:=if x.2=0 then (x.1,0,E8) else (E8,x.2,w)
def x7 (w x:ah):aha w (x,0)=(x,0,E8):=ag rfl
def Gm (w y:ah){k:Int}(h:k≠0):aha w (y,k)=(E8,k,w):=af h
def aLd (w:ah)(a:Int):ah×Int:=(dB w a (YS w.1 (bT w a)).1,(YS w.1 (bT w a)).2)
def aDd {w:ah}(h:aF w){a:Int}(c:0<=a)(e:a<w.2.2.1.length):NH F0 w a=some (aha w (aLd w a)):=by
 obtain⟨b,l⟩:=h.rep c e;rw[apG,kf c (by omega),ab,JS c e,aEQ b,ai,ab,dW b.bt,ai];unfold aLd YS;cases g:(ask w.1 (bT w a)).2 with
 |false=>rfl
 |true =>
  obtain⟨_,f,_,_⟩:=aH5 g;obtain⟨i,j⟩:=Ka f;have k:Ak F0 w.1 ((bT w a).1,(bT w a).2.1,(bT w a).2.1,(bT w a).2.2.2) (1,0,(ask w.1 (bT w a)).1,(0,ak,[]),(0,ak,[]),0,0,0,0,0)=some ((ajJ w.1 (bT w a)).1,(ajJ w.1 (bT w a)).2,()):=aAv b.Gl (adU i j);dsimp only;rw[k,ai,acf (aC6 b) f,ai,aN,aa,ag rfl];cases (ajJ w.1 (bT w a)).2 with
  |false=>rw[af (fun d=>by cases d.1)];rfl
  |true =>
   cases (fc w.1 (ajJ w.1 (bT w a)).1 (ask w.1 (bT w a)).1).2 with
   |false=>rw[af (fun d=>by cases d.2)];rfl
   |true =>
    rw[ag ⟨rfl,rfl⟩,aN,aa,aa,ab];rfl
def aIg (w:ah)(a:Int):ah×Int:=(dB w a (ave w.1 (bT w a)).1,(ave w.1 (bT w a)).2)
def aAP {w:ah}(h:aF w){a:Int}(b:0<=a)(e:a<w.2.2.1.length):I6 F0 w a=some (aha w (aIg w a)):=by
 obtain⟨c,o⟩:=h.rep b e;have f:=c.f.l.t;rw[amt,kf b (by omega),ab,JS b e,aH (by omega) (by omega)];unfold aIg ave;generalize p:bT w a=r at c f;have key:∀(k n:Nat),k<=r.2.2.2.2.2.1.length->k<n ->
   Aq F0 (sr F0) n (sq a ((k:Int)-1) w.1.1 w.1.2 w.1.1 w.1.2 0 0 r.1 r.2.1 r.2.2.1 r.2.2.2.1.1 r.2.2.2.1.2.1 r.2.2.2.1.2.2.1.1 r.2.2.2.1.2.2.1.2.1 r.2.2.2.1.2.2.1.2.2 r.2.2.2.1.2.2.2 r.2.2.2.2.1 r.2.2.2.2.2.1 r.2.2.2.2.2.2.1.1 r.2.2.2.2.2.2.1.2 r.2.2.2.2.2.2.2 w.2.1 w.2.2.1 w.2.2.2.1 w.2.2.2.2 [] [] [] [])
    = some (aha w (dB w a (tN w.1 r k).1,(tN w.1 r k).2)):=by
  intro k
  induction k with
  |zero =>
   intro n g i;obtain⟨n,rfl⟩:∃m,n=m+1:=⟨n-1,by omega⟩;rw[HH,aQ (show ¬((0:Nat):Int)-1>=0 by omega),aa,ac1];rfl
  |succ k j =>
   intro n g i;obtain⟨n,rfl⟩:∃m,n=m+1:=⟨n-1,by omega⟩;have d:k<r.2.2.2.2.2.1.length:=by omega
   have l:=aGf c (r.2.2.2.2.2.1[k]).1 (c.l.tq _ (bJ d)).1 true;rw[HH,show((k+1:Nat):Int)-1=(k:Int) by omega,aL (show(k:Int)>=0 by omega),ae,an d,ab,ab,ab,aV d,NM,kf b (by omega)];unfold tN;rw[aJ d,show((r.2.2.2.2.2.1[k]).2.1.toList==ak.toList)=dh (r.2.2.2.2.2.1[k]).2.1 from rfl];cases q:dh (r.2.2.2.2.2.1[k]).2.1 with
   |true =>
    rw[ag rfl,ae,aH (by omega) (by omega)];exact j n (by omega) (by omega)
   |false =>
    rw[af (by decide),aa];refine Ch (nk (fun x=>Option.bind x _) l) ?_;rw[ai];cases (fP w.1 r (r.2.2.2.2.2.1[k]).1 (r.2.2.2.2.2.1[k]).2.1 true).2 with
    |false=>rfl
    |true =>
     rw[ag rfl,ag rfl];dsimp only;rw[aN,aa,ab,NM];rfl
 exact key r.2.2.2.2.2.1.length F0.n (bF _) (by rw[bz];omega)
def aIh {w:ah}{a:Int}(r:aw)(list:List jC):oR (dB w a r) a list=dB (oR w a list) a r:=by
 have e:aD (dB w a r)=aD w:=by unfold aD dB;dsimp only;rw[oo]
 unfold oR;rw[e];split<;>rfl
def aAQ (w:ah)(a:Int):ah×Int:=if w.2.2.2.1.length+(bb w a).length<=60/\w.2.2.2.2.length+(bb w a).length<=300 then (BK (lT w a) (bb w a),0) else (w,4)
def aAR {w:ah}(h:aF w){a:Int}(b:0<=a)(d:a<w.2.2.1.length):I5 F0 w a=some (aha w (aAQ w a)):=by
 obtain⟨c,k⟩:=h.rep b d;have q:(bb w a).length<=30:=c.f.n;have f:∀p∈bb w a,gb p.2:=c.aKK;have r:=h.nl;have s:=h.sl;have l:=aAt c;have g:=h.dB b c.R3 k;have m:Lo F0 (w.1,w.2.1,w.2.2.1.set a.toNat (R3 (bT w a)),w.2.2.2) a (bb w a)=some (lT w a,()):=by have:=aGk g.w g.sl a (list:=bb w a) (by omega) f;rw[aIh]at this;exact this
 have o:=h.lT b d;rw[amr,kf b (by omega),ab,JS b d,l,ai];dsimp only;rw[show(bT w a).2.2.2.2.2.2.2=bb w a from rfl,aH (n:=(w.2.2.2.1.length:Int)+(bb w a).length) (by omega) (by omega),aH (n:=(w.2.2.2.2.length:Int)+(bb w a).length) (by omega) (by omega),ab,m,ai,alg o.nl (by omega) f,ai];unfold aAQ;by_cases i:w.2.2.2.1.length+(bb w a).length<=60
 .rw[aQ (show ¬(w.2.2.2.1.length:Int)+(bb w a).length>60 by omega),aa];by_cases j:w.2.2.2.2.length+(bb w a).length<=300
  .rw[aQ (show ¬(w.2.2.2.2.length:Int)+(bb w a).length>300 by omega),aa,ag ⟨i,j⟩,x7];rfl
  .rw[aL (show(w.2.2.2.2.length:Int)+(bb w a).length>300 by omega),ae,af (fun e=>j e.2),Gm _ _ (by decide)];rfl
 .rw[aL (show(w.2.2.2.1.length:Int)+(bb w a).length>60 by omega),ae,af (fun e=>i e.1),Gm _ _ (by decide)];rfl
def aIi (w:ah)(d:db):ah×Int :=
 if gC 0 (aj ((w.2.2.2.1.length:Int)-1)) d.2.1=true then
  if d.1=5 then (if w.2.2.2.1.length<60 then (YV w (w.2.2.2.1++[cU w d.2.1]),0) else (w,4))
  else if d.1=3/\(cU w d.2.1).1 ∉ w.2.1 then (dB (O9 w d.2.1) (cU w d.2.1).1 (ajK false w (cU w d.2.1)),0) else (O9 w d.2.1,0)
 else (w,2)
def aJ0 {imp:Bool}{c:Int×Int}{r:aw}{m:b1}(h:(Hd imp c r m).2=false):(Hd imp c r m).1=r:=by
 unfold Hd at h ⊢;split
 .rename_i a;rw[ag a]at h;cases h
 .rfl
def aIj {w:ah}{a:Int}(b:0<=a)(c:a<w.2.2.1.length):w.2.2.1.set a.toNat (bT w a)=w.2.2.1:=by unfold bT;rw[aJ (show a.toNat<w.2.2.1.length by omega)];exact aBo _
def aJ1 {w:ah}{a:Int}(c:0<=a)(e:a<w.2.2.2.1.length)(d:gD):aI w.2.2.2.1 a d=cU w a:=by
 have b:a.toNat<w.2.2.2.1.length:=by omega
 unfold cU;rw[aJ b];exact aJ b d
def aDe {w:ah}(h:aF w)(d:db):xt F0 w d=some (aha w (aIi w d)):=by
 have t:=h.nl;have u:=h.liars;have v:=h.le7;rw[apw,cO,ai];unfold aIi;cases l:gC 0 (aj ((w.2.2.2.1.length:Int)-1)) d.2.1 with
 |false=>rw[af (by decide),Gm _ _ (by decide)];rfl
 |true =>
  obtain⟨i,j⟩:=R7 h l;have b:=h.aJZ i j;obtain⟨m,x⟩:=ar2 b.2.1;obtain⟨t0,t1⟩:=h.aDa b.2.2;obtain⟨n,hid⟩:=h.rep t0 t1;have o:aj (d.2.1+1)=d.2.1+1:=aH (by omega) (by omega);have p:(d.2.1+1).toNat=d.2.1.toNat+1:=by omega
  have q:([]++w.2.2.2.1.take d.2.1.toNat)++(w.2.2.2.1.take (w.2.2.2.1.length:Int).toNat).drop (d.2.1+1).toNat=ad3 w.2.2.2.1 d.2.1.toNat:=by rw[gz,kl,p];rfl
  have y:(w.2.2.2.1.take d.2.1.toNat).length<=60:=by rw[bB];omega
  have z:((w.2.2.2.1.take (w.2.2.2.1.length:Int).toNat).drop (d.2.1+1).toNat).length<=60:=by rw[bc,bB];omega
  have r:okT d.2.1 (w.2.2.2.1.length:Int)=true:=by simp[okT];omega
  rw[ag rfl,aN,aa,kf i j,ab,aJ1 i j,ar (a:=0) (by omega) (by omega) (by have:=b.1.1;omega),ab,ar (by omega) (by omega) (by first|omega|(simp only[aK,aW,bm];omega)|(rw[bc,bB];omega)),ab,r,ab,o,arp (by omega) (by omega) (by omega),ab,ar (a:=0) (by omega) (by omega) (by omega),ab,ar (by omega) (by omega) (by rw[BO];omega),ab,
   q,fH (by omega),ai,auV b.1,ai,kf t0 t1,ab]
  dsimp only;rw[JS t0 t1,aAB n m,ai,ab];by_cases c:d.1=5
  .rw[bd.2 c,ae,ag c];by_cases g:w.2.2.2.1.length<60
   .rw[aQ (show ¬(w.2.2.2.1.length:Int)>=60 by omega),aa,ag g,x7];rfl
   .rw[aL (show(w.2.2.2.1.length:Int)>=60 by omega),ae,af g,Gm _ _ (by decide)];rfl
  .rw[bU.2 c,aa,af c];by_cases e:d.1=3
   .rw[bd.2 e,ae];by_cases f:(cU w d.2.1).1∈w.2.1
    .rw[aL f,aN,aa,af (fun k=>k.2 f),x7];rfl
    .rw[aQ f,ed,ae,ag ⟨e,f⟩,x7];unfold ajK;cases s:(Hd false w.1 (bT w (cU w d.2.1).1) (gF w.1 (cU w d.2.1).2).1).2 with
     |true=>rfl
     |false =>
      rw[aJ0 s];have:=aIj t0 t1;show some (((w.1,w.2.1,w.2.2.1,ad3 w.2.2.2.1 d.2.1.toNat,w.2.2.2.2):ah),(0:Int),_)=some ((w.1,w.2.1,w.2.2.1.set _ _,ad3 w.2.2.2.1 d.2.1.toNat,w.2.2.2.2),0,E8);rw[this];rfl
   .rw[bU.2 e,aa,af (fun k=>e k.1),x7];rfl
def aIk (w:ah)(d:db):ah×Int :=
 if gC 0 (aj (w.1.1-1)) d.2.1=true then (if He w.1 w.2.1 w.2.2.2.2 d.2.2.2=true then (if w.2.2.2.1.length<60 then (BK w [(d.2.1,d.2.2.2)],0) else (w,4)) else (w,5)) else (w,2)
def aDf {w:ah}(h:aF w){d:db}(a:gb d.2.2.2):NF F0 w d=some (aha w (aIk w d)):=by
 have b:=h.nl;have e:=h.liars;have f:=h.sl;rw[apD,cO,ai,aC2 (by omega) (by omega) a,ai,alg b (by simp) (fun p c=>by rw[fq.1 c];exact a),ai];unfold aIk;cases gC 0 (aj (w.1.1-1)) d.2.1 with
 |false=>rfl
 |true =>
  cases He w.1 w.2.1 w.2.2.2.2 d.2.2.2 with
  |false=>rfl
  |true =>
   by_cases g:w.2.2.2.1.length<60
   .rw[aQ (show ¬(w.2.2.2.1.length:Int)>=60 by omega),ag g];rfl
   .rw[aL (show(w.2.2.2.1.length:Int)>=60 by omega),af g];rfl
def aIl (w:ah)(d:db):ah×Int:=if d.1=2 then aAQ w d.2.1 else ag9 false w d
def avj {w:ah}{x:ah×Int}:((some (aha w x):Option (ah×Int×ah)).bind fun r=>br (r.2.1==0) (some (r.1,(0:Int),E8)) (br (r.2.1==0) none (some (E8,r.2.1,w.1,r.2.2.2))))=some (aha w x):=by
 rw[ai];unfold aha;by_cases h:x.2=0
 .rw[ag h];rfl
 .rw[af h];dsimp only;rw[bU.2 h,aa,aa]
def aDg {w:ah}(h:aF w){d:db}(o:gb d.2.2.2)(a:0<=d.2.1)(c:d.2.1<w.2.2.1.length):NQ F0 w d=some (aha w (aIl w d)):=by
 obtain⟨b,t⟩:=h.rep a c;have p:QV F0 w.1 ((bT w d.2.1).1,(bT w d.2.1).2.1,(bT w d.2.1).2.2.1,(bT w d.2.1).2.2.2.1,(bT w d.2.1).2.2.2.2.1,(bT w d.2.1).2.2.2.2.2.1,fN (bT w d.2.1).2.2.2.2.2.2.1 d.2.2.1,(bT w d.2.1).2.2.2.2.2.2.2)=some (jF w.1 (bT w d.2.1) d.2.2.1,()):=aH0 (b.YT d.2.2.1).bt (b.YT d.2.2.1).ok;have e:=fun x:ah×Int=>avj (w:=w) (x:=x)
 unfold E8 at e;rw[apO,kf a (by omega),ab,aDd h a c,aAR h a c,aAP h a c,JS a c,dW b.bt,aCN b.bt.d.1,aH6 b,aAB b o];have q:=e (aLd w d.2.1);have r:=e (aAQ w d.2.1);have s:=e (aIg w d.2.1);unfold aIl ag9 ad2;by_cases f:d.1=1
 .rw[bd.2 f,ae,af (by omega),ag f];exact q
 .rw[bU.2 f,aa,af f];by_cases g:d.1=2
  .rw[bd.2 g,ae,ag g];exact r
  .rw[bU.2 g,aa,af g];by_cases i:d.1=6
   .rw[bd.2 i,ae,ag i];exact s
   .rw[bU.2 i,aa,af i];by_cases j:d.1=8
    .rw[bd.2 j,ae,af (by omega),ag j,x7];simp only[ai,p,ab];rfl
    .rw[bU.2 j,aa];by_cases l:d.1=7
     .rw[bd.2 l,ae,ag l,ai];cases (Cf w.1 (bT w d.2.1)).2 with
      |false=>rw[af (by decide),Gm _ _ (k:=3) (show(3:Int)≠0 by decide)];rfl
      |true=>rw[ag rfl,x7,ab];rfl
     .rw[bU.2 l,aa,af l,af j,ai];unfold ayi;cases (Hd false w.1 (bT w d.2.1) d.2.2.2).2 with
      |false=>rw[af (fun n=>by cases n.1),Gm _ _ (k:=3) (show(3:Int)≠0 by decide)];rfl
      |true =>
       by_cases m:d.2.2.2.1=4
       .rw[ag ⟨rfl,m⟩,x7,aN,aa,show(d.2.2.2.1 != 4)=false by simp[m],aa,ab];rfl
       .rw[af (fun n=>m n.2),Gm _ _ (k:=3) (show(3:Int)≠0 by decide),aN,aa,show(d.2.2.2.1 != 4)=true by simp[m],ae];rfl
def aDh (w:ah)(d:db):ah×Int:=if Il d=true then aIi w d else if d.1=10 then aIk w d else if d.2.1∈aD w then aIl w d else (w,2)
def aDi {w:ah}(h:aF w){d:db}(g:gb d.2.2.2):NR F0 w d=some (aha w (aDh w d)):=by
 have hlen:=Gk w;have p:=h.le7;have b:=fun x:ah×Int=>avj (w:=w) (x:=x)
 unfold E8 at b;have f:=b (aIi w d);have k:=b (aIk w d);have l:=b (aIl w d);rw[apQ,aDe h,aDf h g,arb h.w.l];unfold aDh;by_cases c:Il d=true
 .rw[ag c];by_cases i:d.1=3
  .rw[bd.2 i,ae];exact f
  .rw[bU.2 i,aa];by_cases j:d.1=4
   .rw[bd.2 j,ae];exact f
   .have m:d.1=5:=by have:=fe.1 c;omega
    rw[bU.2 j,aa,bd.2 m,ae];exact f
 .have q:¬(d.1=3\/d.1=4\/d.1=5):=fun a=>c (fe.2 a)
  rw[af c,bU.2 (show d.1≠3 by omega),aa,bU.2 (show d.1≠4 by omega),aa,bU.2 (show d.1≠5 by omega),aa];by_cases e:d.1=10
  .rw[bd.2 e,ae,ag e];exact k
  .rw[bU.2 e,aa,af e,ai,fH (by dsimp only;omega),ai];by_cases a:d.2.1∈aD w
   .obtain⟨n,o⟩:=ej a;rw[aL a,aN,aa,ag a,aDg h g n o];exact l
   .rw[aQ a,ed,ae,af a,Gm _ _ (by decide)];rfl
def aAS (w:ah)(d:db):ah:=if (aDh w d).2=0 then (aDh w d).1 else w
def aAT {w:ah}(h:aF w){d:db}(b:gb d.2.2.2):I7 F0 w d=some ((aAS w d,()),()):=by
 rw[amx,aDi h b,ai];unfold aAS aha;by_cases a:(aDh w d).2=0
 .rw[ag a,ag a];rfl
 .rw[af a,af a];dsimp only;rw[bU.2 a,aa,show((aDh w d).2 != 0)=true by simp[a],ae]
def aF.aML {w:ah}(h:aF w)(d:db):aF (aAS w d):=by
 unfold aAS;split
 .rename_i f;clear f;unfold aDh;split
  .unfold aIi;split
   .rename_i i;obtain⟨b,c⟩:=R7 h i;have e:=h.aJZ b c;split
    .split
     .rename_i g;refine h.YV (by rw[aK,cR];omega) fun x a=>?_
      rcases gQ.1 a with a|a
      .exact h.nb x a
      .rw[fq.1 a];exact e
     .exact h
    .split
     .obtain⟨t0,t1⟩:=h.aDa e.2.2;obtain⟨j,hid⟩:=h.rep t0 t1;exact(h.O9 d.2.1).dB t0 (j.heard false _) (by unfold ajK;rw[ayg];exact hid)
     .exact h.O9 _
   .exact h
  .split
   .unfold aIk;split
    .split
     .split
      .exact h.send _
      .exact h
     .exact h
    .exact h
   .split
    .rename_i k;obtain⟨b,c⟩:=ej k;unfold aIl;split
     .unfold aAQ;split
      .exact(h.lT b c).send _
      .exact h
     .exact h.ag9 false b c
    .exact h
 .exact h
def Hf (i:Int):aw:=(i,1,0,kg,[],[],([],0),[])
def R8 (c:Int×Int)(liars:List Int):ah:=(c,liars,(List.range c.1.toNat).map fun i:Nat=>Hf (i:Int),[],[])
def ar3 {c:Int×Int}(a:bw c=true){i:Int}(e:0<=i)(f:i<c.1):aY c (Hf i):=by have d:=b5 a;refine⟨⟨a,?_,rfl,rfl,ad1 a,rfl,rfl,rfl,aR _,fun x b=>by cases b⟩,fun x b=>by cases b⟩;show gC 0 (aj (c.1-1)) i=true;rw[Yt d.1 d.2.1];simp only[gC,aG,bV];omega
def aIm {c:Int×Int}(a:bw c=true){liars:List Int}(d:ko c.1 liars=true)(e:(liars.length:Int)<=wO c):aF (R8 c liars):=by
 have m:=b5 a;refine⟨a,d,e,?_,fun r f=>?_,fun k g=>?_,aR _,(fun x b=>by cases b),aR _,(fun x b=>by cases b)⟩
 .show(((List.range c.1.toNat).map fun i:Nat=>Hf (i:Int)).length:Int)=c.1;rw[pj,aan];omega
 .obtain⟨i,h,rfl⟩:=Fc.1 f;have:=eZ.1 h;exact ar3 a (by omega) (by omega)
 .have j:k<((List.range c.1.toNat).map fun i:Nat=>Hf (i:Int)).length:=g;have l:(((List.range c.1.toNat).map fun i:Nat=>Hf (i:Int))[k]'j).1=(k:Int):=by rw[List.getElem_map,List.getElem_range];rfl
  exact l
def aDj {c:Int×Int}(b:bw c=true){i:Int}(d:0<=i)(e:i<c.1):M4 F0 c i=some (Hf i,true,()):=by
 have a:=ar3 b d e;have f:dw F0 c (i,1,0,(0,0,(0,ak,[]),ak),[],[],([],0),[])=some (true,()):=by have:=ib a.l c;rw[a.ok]at this;exact this
 rw[aoW,f];rfl
def aAU {c:Int×Int}(b:bw c=true){i:Int}(d:0<=i)(e:i<c.1):N2 F0 c i=some (Hf i,true,()):=by
 have a:=ar3 b d e;have f:cq F0 c (i,1,0,(0,0,(0,ak,[]),ak),[],[],([],0),[])=some (true,()):=by have:=dS a.l c;rw[a.ok]at this;exact this
 rw[ap6,f];rfl
def Tp {c:Int×Int}{liars:List Int}(h:aF (R8 c liars)):dZ F0 c liars=some (R8 c liars,true,()):=by
 have b:=b5 h.c;have d:bw c=true:=h.c;have f:liars.length<=7:=h.liars;have g:(c.1.toNat:Int)=c.1:=MH (by have:4<=c.1:=b.1;omega);have j:c.1.toNat<=7:=by have:c.1<=7:=b.2.1;omega
 rw[ahM,ar (a:=0) (by omega) (by omega) (by omega),ab];refine aCI (fun n k xs=>uM F0 (yP F0) n (pq k c.1 c.2 0 0 c.1 c.2 [] [] [] [] ([]++liars) xs [] [])) (List.range c.1.toNat) (fun i:Nat=>Hf (i:Int)) _ (fun n k xs e l=>?_) (fun n=>?_) _ (by rw[bz,aan];omega)
 .have m:k<c.1.toNat:=by rw[aan]at e;exact e
  rw[Fs,aL (show(k:Int)<c.1 by omega),ae,show((c.1,c.2):Int×Int)=c from rfl,iB,ai,d,ae,aDj d (by omega) (by omega),ai,ar (by omega) (by omega) (by first|omega|(simp only[aK,aW,bm];omega)|(rw[bc,bB];omega)),ab,al (by omega),List.getElem_range]
 .have dd:yO F0 ((c.1,c.2),[]++liars,((List.range c.1.toNat).map fun i:Nat=>Hf (i:Int),([],[])))=some (true,()):=by have:=azX h.w.l;rw[h.ok]at this;exact this
  rw[Fs,aan,aQ (show ¬(c.1.toNat:Int)<c.1 by omega),aa,ZO,dd];rfl
def atW {c:Int×Int}{liars:List Int}(h:aF (R8 c liars)):fo F0 c liars=some (R8 c liars,true,()):=by
 have b:=b5 h.c;have a:bw c=true:=h.c;have e:liars.length<=7:=h.liars;have f:(c.1.toNat:Int)=c.1:=MH (by have:4<=c.1:=b.1;omega);have g:c.1.toNat<=7:=by have:c.1<=7:=b.2.1;omega
 rw[aiv,og (by omega),ai];refine aCI (fun n k xs=>vD F0 (AP F0) n (pN k c.1 c.2 0 0 c.1 c.2 [] [] [] [] liars xs [] [])) (List.range c.1.toNat) (fun i:Nat=>Hf (i:Int)) _ (fun n k xs d j=>?_) (fun n=>?_) _ (by rw[bz,aan];omega)
 .have l:k<c.1.toNat:=by rw[aan]at d;exact d
  rw[FO,show((c.1,c.2):Int×Int)=c from rfl,fZ,ai,a,ae,aL (show(k:Int)<c.1 by omega),ae,aAU a (by omega) (by omega),ai,ar (by omega) (by omega) (by first|omega|(simp only[aK,aW,bm];omega)|(rw[bc,bB];omega)),ab,al (by omega),List.getElem_range]
 .have dd:b4 F0 ((c.1,c.2),liars,((List.range c.1.toNat).map fun i:Nat=>Hf (i:Int),([],[])))=some (true,()):=by have:=gP h.w.l;rw[h.ok]at this;exact this
  rw[FO,show((c.1,c.2):Int×Int)=c from rfl,fZ,ai,a,ae,aan,aQ (show ¬(c.1.toNat:Int)<c.1 by omega),aa,Z1,dd];rfl
def New (w:ah):Prop:=∃c liars,w=R8 c liars/\aF (R8 c liars)
def New.g {w:ah}(h:New w):aF w:=by obtain⟨c,l,rfl,a⟩:=h;exact a
def aMM (n:Int):ko n []=true:=rfl
def aMN {n x:Int}(a:0<=x)(b:x<n):ko n [x]=true:=by simp[ko,a,b]
def aDk {c:Int×Int}(h:bw c=true):1<=wO c:=by have a:=b5 h;unfold wO;rw[ag h];exact(azC a.1 a.2.1).1
def aIn {c:x9}(h:Tb c):Dr (U:=ah) (pr F0 c) New:=by
 unfold Dr;rw[WO];refine Dr.bind (adL h (l:=[4,4,4,5,7]) (by decide) (by decide)) fun x g i=>Dr.bind (hO i (n:=3) (by omega) (by omega)) fun y d j=>Dr.bind (anF j (n:=3) (by omega) (by omega)) fun z o e=>?_
 have p:x.1.1=4\/x.1.1=5\/x.1.1=7:=by simp only[cS,aci,or_false]at g;omega
 have q:=d.1;have r:=d.2;have b:bw (x.1.1,aj (1+y.1.1))=true:=by rw[aH (by omega) (by omega)];simp only[bw,gC,aG,bV];omega
 have k:=aDk b;refine Gd.br (fun _=>?_) fun _=>?_
 .refine Dr.bind (hO e (n:=x.1.1) (by omega) (by omega)) fun v f m=>?_
  have a:aF (R8 (x.1.1,aj (1+y.1.1)) [v.1.1]):=aIm b (aMN f.1 f.2) (by simpa using k);exact Gd.let (Tp a) (Gd.ret ⟨⟨_,_,rfl,a⟩,m⟩)
 .have a:aF (R8 (x.1.1,aj (1+y.1.1)) []):=aIm b (aMM _) (by simp;omega);exact Gd.let (Tp a) (Gd.ret ⟨⟨_,_,rfl,a⟩,e⟩)
def aDl {a b:Int}{V:Type}{f:Int×Unit->Option V}{P:V->Prop}(h:Gd (f (Hc a b,())) P):Gd ((bK F0 a b).bind f) P:=Gd.let (Zy a b) h
def aIo {a b:Int}{V:Type}{f:Int×Unit->Option V}{P:V->Prop}(h:Gd (f (te a b,())) P):Gd ((dK F0 a b).bind f) P:=Gd.let (Dk a b) h
def avk {up:ByteArray}(d:up.size<=6000){view:Int}(a:I64 view){l:List dH}(e:l.length<=10){V:Type}{f:ByteArray×Unit->Option V}{P:V->Prop}(h:∀b:ByteArray,b.size<=7000->Gd (f (b,())) P):Gd ((kX F0 up view l).bind f) P:=by have c:=aro (up:=up.data.toList) (by show up.size<=_;omega) a (l:=l) (by omega);have g:=au3 (up:=up.data.toList) a l;refine Gd.let c (h _ ?_);rw[bD];have:up.data.toList.length=up.size:=rfl;omega
def ad5 {w:ah}(h:aF w)(view:Int)(name:ByteArray)(d:name.size<=1048576){c:x9}(e:Tb c) :
  Gd (cK F0 (eE F0) F0.n (ct view name 0 c.1 c.2.1 c.2.2 w.1.1 w.1.2 w.2.1 w.2.2.1 w.2.2.2.1 w.2.2.2.2 0 0 ak 0 ak 0 ak 0 ak 0 0 0 0 0 ([]++w.2.1) [] [] [])) fun z:DrT b1=>(∃q:bZ,z.1.1=BJ q/\ur q)/\Tb z.2.1:=by
 have g:=h.sl;have j:=h.liars;refine anD (fun n i (z:List Int)=>cK F0 (eE F0) n (ct view name i c.1 c.2.1 c.2.2 w.1.1 w.1.2 w.2.1 w.2.2.1 w.2.2.2.1 w.2.2.2.2 0 0 ak 0 ak 0 ak 0 ak 0 0 0 0 0 z [] [] [])) w.2.2.2.2.length (fun k z=>z.length<=7+k) _ (fun n k z b f a=>?_) (fun n z f=>?_) F0.n 0 ([]++w.2.1) (aR _) (by show w.2.1.length<=_;omega) (by rw[bz];omega)
 .rw[tW,aM b,ae,an b,ab,ab,ab,al (by omega)];refine Gd.br (fun _=>Gd.br (fun _=>Gd.let (adA (by omega) _) ?_) fun _=>?_) fun _=>?_
  .exact a _ (by have:=aqW z (aI w.2.2.2.2 (k:Int) Mr).2.2;exact bY (aqW _ _) (by omega))
  .exact a _ (by omega)
  .exact a _ (by omega)
 .rw[tW,aC,aa,Qt];exact Gd.ret ⟨⟨(view,name,z),rfl,d,by show z.length<=_;omega⟩,e⟩
def aIp {c:x9}(k:Tb c){w:ah}(h:aF w):Dr (U:=b1) (pB F0 c w) fun m=>∃q:bZ,m=BJ q/\ur q:=by
 have t:=h.sl;have u:=h.liars;unfold Dr;rw[W2];refine Dr.bind (hO k (n:=4) (by omega) (by omega)) fun x e f=>?_
 have v:=e.1;have A:=e.2;refine avk (aR _) (by rw[aH (by omega) (by omega)];exact⟨by omega,by omega⟩) (aR _) fun b l=>?_
 refine Gd.ck (ar (a:=0) (by omega) (by omega) (by omega)) (Gd.br (fun hlen=>?_) fun _=>ad5 h _ _ (by show b.size<=_;omega) f);have B:0<w.2.2.2.2.length:=by have:=nj hlen;omega
 refine aDl ?_;have m0:0<Hc (w.2.2.2.2.length:Int) 8:=by unfold Hc;split<;>omega
 have m1:Hc (w.2.2.2.2.length:Int) 8<=w.2.2.2.2.length:=by unfold Hc;split<;>omega
 refine Dr.bind (hO f (n:=Hc (w.2.2.2.2.length:Int) 8) m0 (by omega)) fun y g o=>?_
 have C:=g.1;have D:=g.2;have p:aj (aj ((w.2.2.2.2.length:Int)-1)-y.1.1)=((w.2.2.2.2.length-1-y.1.1.toNat:Nat):Int):=by rw[aH (n:=(w.2.2.2.2.length:Int)-1) (by omega) (by omega),aH (by omega) (by omega)];omega
 have d:w.2.2.2.2.length-1-y.1.1.toNat<w.2.2.2.2.length:=by omega
 have i:=h.sb _ (bJ d);have r:=pa i.2.1;have E:=kI (w.2.2.2.2[w.2.2.2.2.length-1-y.1.1.toNat]).2.1.data.toList;have s:=i.2.2;rw[p];refine Gd.ck (an d) (Dr.bind (anF o (n:=3) (by omega) (by omega)) fun z F j=>?_);rw[aV d];refine Gd.br (fun _=>Gd.let (agx (bY r (by omega))) ?_) fun _=>ad5 h _ _ (by omega) j
 refine avk (up:=upB (w.2.2.2.2[w.2.2.2.2.length-1-y.1.1.toNat]).2.1) (bY (My _) (by omega)) (by rw[<-s];exact⟨by omega,by omega⟩) (by simp) fun b l=>ad5 h _ _ (by show b.size<=_;omega) j
def ar4 {c:Int×Int}{q:bZ}{view:Int}{l:List dH}:(eP c q view l).1.1.size<=1048576/\ur (eP c q view l).1.2:=by
 unfold eP;split
 .rename_i a;exact Ka a.1
 .exact⟨aR _,fO⟩
def aIq {w:ah}(h:aF w){q:bZ}(b:eW w.1 q=true)(cw:Int){view:Int}(d:0<=view)(e:view<=61){c:x9}(f:Tb c) :
  Gd (bL F0 (bo F0) F0.n (bn cw view 0 c.1 c.2.1 c.2.2 w.1.1 w.1.2 w.2.1 w.2.2.1 w.2.2.2.1 w.2.2.2.2 0 0 ak 0 ak 0 ak 0 ak 0 0 0 0 0 q.1 q.2.1 [] [] [] q.2.2)) fun z:DrT b1=>gb z.1.1/\Tb z.2.1:=by
 have out:∀v:Int,0<=v->v<=61->Gd (bo F0 (.exit 1) (ha v c.1 c.2.1 c.2.2 w.1.1 w.1.2 w.2.1 w.2.2.1 w.2.2.2.1 w.2.2.2.2 0 0 ak 0 ak 0 ak 0 ak 0 0 0 0 0 q.1 q.2.1 [] [] [] q.2.2)) fun z:DrT b1=>gb z.1.1/\Tb z.2.1:=fun v o p=>by
  rw[Vu];refine Dr.bind (au2 f) fun x r g=>?_
  have i:=ag1 (c:=w.1) b (view:=v) ⟨by omega,by omega⟩ (l:=[x.1.1]) (by simp);exact Gd.let i (Gd.ret ⟨adU ar4.1 ar4.2,g⟩)
 refine anD (fun n k (v:Int)=>bL F0 (bo F0) n (bn cw v k c.1 c.2.1 c.2.2 w.1.1 w.1.2 w.2.1 w.2.2.1 w.2.2.2.1 w.2.2.2.2 0 0 ak 0 ak 0 ak 0 ak 0 0 0 0 0 q.1 q.2.1 [] [] [] q.2.2)) 7 (fun k v=>0<=v/\v<=61) _ (fun n k v s a j=>?_) (fun n v a=>?_) F0.n 0 view (aR _) ⟨d,e⟩ (by rw[bz];omega)
 .have i0:=a.1;have i1:=a.2;rw[y6,aL (show(k:Int)<7 by omega),ae];refine Gd.br (fun m=>Gd.let (Ml _ _) (Gd.br (fun _=>?_) fun _=>out v i0 i1)) fun _=>out v i0 i1
  have t:=nj m;rw[aH (n:=v+1) (by omega) (by omega),al (by omega)];exact j (v+1) ⟨by omega,by omega⟩
 .rw[y6,aQ (show ¬((7:Nat):Int)<7 by omega),aa];exact out v a.1 a.2
def aAV {w:ah}(h:aF w){q:bZ}(b:eW w.1 q=true)(cw:Int){m:b1}(g:gb m){c:x9}(i:Tb c) :
  Gd ((av F0 c 4).bind fun a=>br (a.1.1==0) (some ((m,()),a.2.1,())) (br (a.1.1==1) ((av F0 a.2.1 2).bind fun f=>(bK F0 (aj ((aj (q.1+1))+f.1.1)) 60).bind fun j=>some (((3,j.1,(ak,0,ak,[]),(0,ak,[]),q,cw,0,0,0,0),()),f.2.1,())) (bL F0 (bo F0) F0.n (bn cw (aj (q.1+1)) 0 a.2.1.1 a.2.1.2.1 a.2.1.2.2 w.1.1 w.1.2 w.2.1 w.2.2.1 w.2.2.2.1 w.2.2.2.2 0 0 ak 0 ak 0 ak 0 ak 0 0 0 0 0 q.1 q.2.1 [] [] [] q.2.2)))) fun z:DrT b1=>gb z.1.1/\Tb z.2.1:=by
 obtain⟨_,_,l,_⟩:=ka b;have o:=kI q.2.1.data.toList;have e:aj (q.1+1)=q.1+1:=aH (by omega) (by omega);refine Dr.bind (hO i (n:=4) (by omega) (by omega)) fun x p d=>Gd.br (fun _=>Gd.ret ⟨g,d⟩) fun _=>Gd.br (fun _=>?_) fun _=>?_
 .exact Dr.bind (hO d (n:=2) (by omega) (by omega)) fun y r k=>aDl (Gd.ret ⟨R2 (Mz b) cw,k⟩)
 .rw[e];exact aIq h b cw (by omega) (by omega) d
def aAW {c:Int×Int}(a:bw c=true):eW c b9=true:=by unfold eW aaj;simp only[a];rfl
def aAX:IS F0=some (b9,()):=by rw[al2];rfl
def aLe {c:x9}(v:Tb c){w:ah}(h:aF w):Dr (U:=b1) (il F0 c w) gb:=by
 have D:=h.le7;have E:=h.liars;unfold Dr;rw[acR];refine Dr.bind (aIp v h) fun x A f=>?_
 obtain⟨q,e,o⟩:=A;obtain⟨⟨m,u⟩,⟨F,G⟩⟩:=x;dsimp only at e f ⊢;subst e;have p:=ajE o;have cw:∀(Q:bZ),eW w.1 Q=true->∀g:x9,Tb g->Gd (br (decide ((w.2.1.length:Int)>0)) ((av F0 g (w.2.1.length:Int)).bind fun i=>ck (bG i.1.1 (w.2.1.length:Int)) ((av F0 i.2.1 4).bind fun a=>br (a.1.1==0) (some ((BJ q,()),a.2.1,())) (br (a.1.1==1) ((av F0 a.2.1 2).bind fun d=>(bK F0 (aj ((aj (Q.1+1))+d.1.1)) 60).bind fun k=>some (((3,k.1,(ak,0,ak,[]),(0,ak,[]),Q,aI w.2.1 i.1.1 0,0,0,0,0),()),d.2.1,())) (bL F0 (bo F0) F0.n (bn (aI w.2.1 i.1.1 0) (aj (Q.1+1)) 0 a.2.1.1 a.2.1.2.1 a.2.1.2.2 w.1.1 w.1.2 w.2.1 w.2.2.1 w.2.2.2.1 w.2.2.2.2 0 0 ak 0 ak 0 ak 0 ak 0 0 0 0 0 Q.1 Q.2.1 [] [] [] Q.2.2))))) ((av F0 g 4).bind fun a=>br (a.1.1==0) (some ((BJ q,()),a.2.1,())) (br (a.1.1==1) ((av F0 a.2.1 2).bind fun d=>(bK F0 (aj ((aj (Q.1+1))+d.1.1)) 60).bind fun k=>some (((3,k.1,(ak,0,ak,[]),(0,ak,[]),Q,0,0,0,0,0),()),d.2.1,())) (bL F0 (bo F0) F0.n (bn 0 (aj (Q.1+1)) 0 a.2.1.1 a.2.1.2.1 a.2.1.2.2 w.1.1 w.1.2 w.2.1 w.2.2.1 w.2.2.2.1 w.2.2.2.2 0 0 ak 0 ak 0 ak 0 ak 0 0 0 0 0 Q.1 Q.2.1 [] [] [] Q.2.2))))) fun z:DrT b1=>gb z.1.1/\Tb z.2.1:=fun Q r g s=>by
  refine Gd.br (fun B=>?_) fun _=>aAV h r 0 p s
  have:=nj B;refine Dr.bind (hO s (n:=(w.2.1.length:Int)) (by omega) (by omega)) fun y l j=>Gd.ck (kf l.1 l.2) (aAV h r _ p j)
 refine Gd.let (S5 (q:=q) o w.1) (Gd.br (fun _=>Gd.let aAX (Gd.br (fun _=>?_) fun _=>cw b9 (aAW h.c) _ f)) fun dd=>cw q (by simpa using dd) _ f);refine Dr.bind (anF f (n:=2) (by omega) (by omega)) fun y l j=>Gd.br (fun _=>?_) fun _=>cw b9 (aAW h.c) _ j
 refine Dr.bind (hO j (n:=(w.2.2.1.length:Int)) (by omega) (by omega)) fun z b C=>Gd.ck (kf b.1 b.2) ?_
 have t:=(h.rep b.1 b.2).1;rw[JS b.1 b.2];exact Gd.let (wQ t.l.s.1.2) (cw _ (cC t.f.s).2.2.1 _ C)
def aAY:b1:=(0,0,(ak,b9),b9,b9,0,ni)
def E9:gb aAY:=⟨aR _,fO,fO,fO⟩
def ali (d:db):Prop:=gb d.2.2.2
def ajM {w:ah}(h:aF w)(a:Int){c:x9}(b:Tb c) :
  Gd (br ((w.2.2.2.1.length:Int)==0) (some (((2,a,0,0,0,(ak,0,ak,[]),(0,ak,[]),(0,ak,[]),0,0,0,0,0),()),c,())) ((bK F0 (w.2.2.2.1.length:Int) 4).bind fun e=>(av F0 c e.1).bind fun d=>some (((3,d.1.1,0,0,0,(ak,0,ak,[]),(0,ak,[]),(0,ak,[]),0,0,0,0,0),()),d.2.1,()))) fun z:DrT db=>ali z.1.1/\Tb z.2.1:=by
 refine Gd.br (fun _=>Gd.ret ⟨E9,b⟩) fun f=>aDl ?_
 have i:(w.2.2.2.1.length:Int)≠0:=by simpa using f
 have m0:0<Hc (w.2.2.2.1.length:Int) 4:=by unfold Hc;split<;>omega
 have m1:Hc (w.2.2.2.1.length:Int) 4<=4:=by unfold Hc;split<;>omega
 exact Dr.bind (hO b (n:=Hc (w.2.2.2.1.length:Int) 4) m0 (by omega)) fun y j g=>Gd.ret ⟨E9,g⟩
def aIr {a:Int}{n k:Nat}(b:0<=a)(c:a<n)(d:k<n)(e:n<=7):0<=Int.tmod (aj (a+(k:Int))) (n:Int)/\Int.tmod (aj (a+(k:Int))) (n:Int)<n:=by rw[aH (by omega) (by omega),anO (by omega)];exact⟨VP _ (by omega),anR _ (by omega)⟩
def nz0 {n:Nat}(h:0<n):(!((n:Int)==0))=true:=by simp;omega
def ar5 {w:ah}(h:aF w){a:Int}(i:0<=a)(j:a<w.2.2.1.length){c:x9}(d:Tb c) :
  Gd (dN F0 (dO F0) F0.n (cZ (w.2.2.1.length:Int) a 0 c.1 c.2.1 c.2.2 w.1.1 w.1.2 w.2.1 w.2.2.1 w.2.2.2.1 w.2.2.2.2 0 0 0 0 0 ak 0 ak 0 ak 0 ak 0 0 0 0 0 [] [] [])) fun z:DrT db=>ali z.1.1/\Tb z.2.1:=by
 have l:=h.le7;have p:=h.liars;refine anD (fun n k (z:Unit)=>dN F0 (dO F0) n (cZ (w.2.2.1.length:Int) a k c.1 c.2.1 c.2.2 w.1.1 w.1.2 w.2.1 w.2.2.1 w.2.2.2.1 w.2.2.2.2 0 0 0 0 0 ak 0 ak 0 ak 0 ak 0 0 0 0 0 [] [] [])) w.2.2.1.length (fun _ _=>True) _ (fun n k z e m f=>?_) (fun n z m=>?_) F0.n 0 () (aR _) trivial (by rw[bz];omega)
 .obtain⟨b,g⟩:=aIr i j e l.2;have o:=(h.rep b g).1;rw[w9,aM e,ae,nz0 (by omega),ab,kf b (by omega),ab,JS b g,ab,ab,Vw,al (by omega)];refine Gd.let (aEQ o) (Gd.br (fun _=>?_) fun _=>f () trivial);refine Gd.let (fH (by omega) _) (Gd.br (fun _=>?_) fun _=>f () trivial);exact Gd.ret ⟨E9,d⟩
 .rw[w9,aC,aa,Sz];exact Gd.ret ⟨E9,d⟩
def ZG {w:ah}(h:aF w){a:Int}(e:0<=a)(f:a<w.2.2.1.length){c:x9}(b:Tb c) :
  Gd (dM F0 (cY F0) F0.n (cX (w.2.2.1.length:Int) a 0 c.1 c.2.1 c.2.2 w.1.1 w.1.2 w.2.1 w.2.2.1 w.2.2.2.1 w.2.2.2.2 0 0 0 0 0 ak 0 ak 0 ak 0 ak 0 0 0 0 0 [] [] [])) fun z:DrT db=>ali z.1.1/\Tb z.2.1:=by
 have g:=h.le7;refine anD (fun n k (z:Unit)=>dM F0 (cY F0) n (cX (w.2.2.1.length:Int) a k c.1 c.2.1 c.2.2 w.1.1 w.1.2 w.2.1 w.2.2.1 w.2.2.2.1 w.2.2.2.2 0 0 0 0 0 ak 0 ak 0 ak 0 ak 0 0 0 0 0 [] [] [])) w.2.2.1.length (fun _ _=>True) _ (fun n k z d i j=>?_) (fun n z i=>?_) F0.n 0 () (aR _) trivial (by rw[bz];omega)
 .obtain⟨l,m⟩:=aIr e f d g.2;rw[w8,aM d,ae,nz0 (by omega),ab,kf l (by omega),ab,ab,Vv,al (by omega)];refine Gd.br (fun _=>?_) fun _=>j () trivial
  exact Gd.ret ⟨E9,b⟩
 .rw[w8,aC,aa,Sy];exact ajM h a b
def ar6 {w:ah}(h:aF w)(a:Int){c:x9}(b:Tb c) :
  Gd (br (decide ((w.2.1.length:Int)>0)) ((il F0 c w).bind fun d=>some (((10,a,0,d.1.1),()),d.2.1,())) (br ((w.2.2.2.1.length:Int)==0) (some (((2,a,0,0,0,(ak,0,ak,[]),(0,ak,[]),(0,ak,[]),0,0,0,0,0),()),c,())) ((bK F0 (w.2.2.2.1.length:Int) 4).bind fun f=>(av F0 c f.1).bind fun e=>some (((3,e.1.1,0,0,0,(ak,0,ak,[]),(0,ak,[]),(0,ak,[]),0,0,0,0,0),()),e.2.1,())))) fun z:DrT db=>ali z.1.1/\Tb z.2.1 :=
 Gd.br (fun _=>Dr.bind (aLe b h) fun x g i=>Gd.ret ⟨g,i⟩) fun _=>ajM h a b
def aJ2 {c:x9}(i:Tb c){w:ah}(h:aF w):Dr (U:=db) (r6 F0 c w) ali:=by
 have p:=h.le7;have q:=h.nl;unfold Dr;rw[ZU];refine aIo ?_;have m:te (w.2.2.1.length:Int) 1=w.2.2.1.length:=by unfold te;rw[af (by omega)]
 dsimp only;rw[m];refine Dr.bind (hO i (n:=(w.2.2.1.length:Int)) (by omega) (by omega)) fun x j k=>?_
 obtain⟨b,d⟩:=j;refine Dr.bind (hO k (n:=20) (by omega) (by omega)) fun y r a=>?_
 refine Gd.br (fun _=>ar5 h b d a) fun _=>Gd.br (fun _=>ar5 h b d a) fun _=>Gd.br (fun _=>ar5 h b d a) fun _=>Gd.br (fun _=>ZG h b d a) fun _=>Gd.br (fun _=>ZG h b d a) fun _=>Gd.br (fun _=>ZG h b d a) fun _=>Gd.br (fun _=>ZG h b d a) fun _=>Gd.br (fun _=>Gd.ret ⟨E9,a⟩) fun _=>Gd.br (fun _=>Gd.ret ⟨E9,a⟩) fun _=>Gd.br (fun _=>?_) fun _=>Gd.br (fun _=>?_) fun _=>Gd.br (fun _=>ar6 h _ a) fun _=>Gd.br (fun _=>ar6 h _ a) fun _=>Gd.br (fun _=>ar6 h _ a) fun _=>ajM h _ a
 .refine Dr.bind (anF a (n:=2) (by omega) (by omega)) fun z s f=>Gd.br (fun _=>?_) fun _=>?_
  .exact Dr.bind (adL f (l:=[0,0,5,40,9999]) (by decide) (by decide)) fun v g e=>Gd.ret ⟨E9,e⟩
  .refine Dr.bind (hO f (n:=2) (by omega) (by omega)) fun v g e=>aIo ?_
   have m0:0<te (w.2.2.2.1.length:Int) 1:=by unfold te;split<;>omega
   have m1:te (w.2.2.2.1.length:Int) 1<=60:=by unfold te;split<;>omega
   exact Dr.bind (hO e (n:=te (w.2.2.2.1.length:Int) 1) m0 (by omega)) fun u t o=>Gd.ret ⟨E9,o⟩
 .exact Dr.bind (au2 a) fun v g e=>Gd.ret ⟨⟨aR _,fO,fO,fO⟩,e⟩
def aIs {code:List Int}(h:code.length<=1048576):∃v:Int,Nd F0 code 70 140=some (v,())/\70<=v/\v<=140:=by
 have a:Int.tdiv (code.length:Int) 4=(code.length:Int)/4:=anP (by omega);rw[ao6,a,aH (n:=(code.length:Int)/4) (by omega) (by omega),aH (by omega) (by omega)];by_cases g:70+(code.length:Int)/4>140
 .rw[aL g];exact⟨140,rfl,by omega,by omega⟩
 .rw[aQ g];exact⟨70+(code.length:Int)/4,rfl,by omega,by omega⟩
def aGp {code:List Int}(h:code.length<=1048576):Gd (eR F0 code) fun z=>New z.1/\z.2.1.length<=140/\∀d∈z.2.1,ali d:=by
 rw[ac2];refine Gd.bind (aK6 h) fun B r=>Dr.bind (aIn r) fun s i cs=>?_
 have j:=i.g;refine Gd.let (ak8 j.w) ?_;obtain⟨v,t,C,D⟩:=aIs h;refine Gd.let t (Dr.bind (hO cs (n:=v) (by omega) (by omega)) fun a f u=>?_);obtain⟨E,F⟩:=f;have key:∀(b k:Nat) (z:x9×(ah×List db)) (n:Nat),(k:Int)+b=a.1.1->Tb z.1->aF z.2.1->z.2.2.length<=k->(∀d∈z.2.2,ali d)->b<n->k<=140 ->
   Gd (pK F0 (tB F0) n (lY a.1.1 (k:Int) 0 0 z.1.1 z.1.2.1 z.1.2.2 s.1.1.1.1 s.1.1.1.2 z.2.1.1.1 z.2.1.1.2 z.2.2 [] [] [] [] s.1.1.2.1 s.1.1.2.2.1 s.1.1.2.2.2.1 s.1.1.2.2.2.2 z.2.1.2.1 z.2.1.2.2.1 z.2.1.2.2.2.1 z.2.1.2.2.2.2)) fun z=>New z.1/\z.2.1.length<=140/\∀d∈z.2.1,ali d:=by
  intro b
  induction b with
  |zero =>
   intro k z n w l e o c f p;obtain⟨n,rfl⟩:∃m,n=m+1:=⟨n-1,by omega⟩;rw[As,aQ (show ¬(k:Int)<a.1.1 by omega),aa,Vx];exact Gd.ret ⟨i,bY o p,c⟩
  |succ b y =>
   intro k z n w l e o c f p;obtain⟨n,rfl⟩:∃m,n=m+1:=⟨n-1,by omega⟩;rw[As,aL (show(k:Int)<a.1.1 by omega),ae];refine Dr.bind (aJ2 l e) fun d q A=>Gd.ck (ar (by omega) (by omega) (by simp only[aW,bm];omega)) (Gd.let (aAT e q) ?_)
   rw[al (by omega)];exact y (k+1) (d.2.1,aAS z.2.1 d.1.1,z.2.2++[d.1.1]) n (by omega) A (e.aML _) (by rw[aK,cR];omega) (fun x g=>(gQ.1 g).elim (c x) fun g=>by rw[fq.1 g];exact q) (by omega) (by omega)
 exact key a.1.1.toNat 0 (a.2.1,s.1.1,[]) F0.n (by omega) u j (bF _) (fun d c=>by cases c) (by rw[bz];omega) (by omega)
end Go.Am.Tryz
