/- No condition. -/
import Derived.Test.YtaheoongenkdbaaGreatDoorQeAmOps4
set_option linter.all false
namespace Go.Am
open Go.RowKit
def wrC:List Value->Nat->List Value->List Value×(Nat×List Value)
 |[],o,b=>([],(o,b))|u::c,o+1,b=>let q:=wrC c o b;(u::q.1,q.2)
 |u::c,0,[]=>(u::c,(0,[]))|u::c,0,v::b=>let q:=wrC c 0 b;(v::q.1,q.2)
def abS:∀(c:List Value),wrC c 0 []=(c,(0,[]))
 |[]=>rfl|_::_=>rfl
def atm:∀(b c:List Value) (o:Nat) (vs:List Value),wrC (b++c) o vs=((wrC b o vs).1++(wrC c (wrC b o vs).2.1 (wrC b o vs).2.2).1,(wrC c (wrC b o vs).2.1 (wrC b o vs).2.2).2)
 |[],c,o,vs=>by cases o<;>rfl
 |u::b,c,o+1,vs=>by simp only[Gi,wrC,atm b c o vs]
 |u::b,c,0,[]=>by simp only[Gi,wrC,abS]
 |u::b,c,0,v::vs=>by simp only[Gi,wrC,atm b c 0 vs]
def atn:∀(c:List Value) (o:Nat) (vs b:List Value),wrC c o vs=(b,(0,[]))->o+vs.length<=c.length/\∀i,b[i]?=if o<=i/\i<o+vs.length then vs[i-o]? else c[i]?
 |[],o,vs,b,h=>by
  cases o<;>(simp[wrC]at h)
  obtain⟨rfl,rfl⟩:=h;simp
 |u::c,o+1,vs,b,h=>by
  simp only[wrC]at h;injection h with d e
  obtain⟨g,f⟩:=atn c o vs (wrC c o vs).1 (by rw[<-e]);subst d;refine⟨by simp;omega,fun i=>?_⟩;cases i with
  |zero=>simp
  |succ i =>
   simp only[List.getElem?_cons_succ,f i];have j:(o+1<=i+1/\i+1<o+1+vs.length)↔(o<=i/\i<o+vs.length):=by omega
   simp only[j,show i+1-(o+1)=i-o by omega]
 |u::c,0,[],b,h=>by simp[wrC]at h;subst h;refine⟨by simp,fun i=>?_⟩;rw[af (by simp)]
 |u::c,0,v::vs,b,h=>by
  simp only[wrC]at h;injection h with d e
  obtain⟨g,f⟩:=atn c 0 vs (wrC c 0 vs).1 (by rw[<-e]);subst d;refine⟨by simp at g ⊢;omega,fun i=>?_⟩;cases i with
  |zero=>simp
  |succ i =>
   simp only[List.getElem?_cons_succ,f i];by_cases l:i<vs.length
   .rw[ag ⟨by omega,by omega⟩,ag ⟨by omega,by simp;omega⟩];simp
   .rw[af (by omega),af (by simp;omega)]
def ayU {b vs:List Value}{p:Nat}(h:p+vs.length<=b.length)(q:Nat):(b.take p++vs++b.drop (p+vs.length))[q]?=if p<=q/\q<p+vs.length then vs[q-p]? else b[q]?:=by
 simp only[gI,asV,bC,Of,ahf];have e:min p b.length=p:=by omega
 rw[e];by_cases c:q<p
 .rw[ag c,ag c,af (by omega)]
 .rw[af c];by_cases d:q-p<vs.length
  .rw[ag d,ag ⟨by omega,by omega⟩]
  .rw[af d,af (by omega)]
   congr 1
   omega
section
variable {P:Program} {w0:eH} {w:World} {G:Gh} {st:St} {a:Act} {U:Type} {k:St->Option U} {r:U} {K:Act->World->Prop} {Q:Exit->Act->World->Prop} {o:Oper}
def aeT {st cy:St}(h:gr st cy):∀(t:Ty) (x:t.D) (s:Nat×List AC),Bf cy t x s=Bf st t x s
 |.unit,x,s=>rfl|.pair t u,x,s=>by
  simp only[Bf];rw[aeT h t];cases Bf st t x.1 s with
  |none=>rfl|some y=>dsimp only;rw[aeT h u]
 |.int k,x,(0,[])=>rfl|.int k,x,(0,c::l)=>by simp only[Bf];rw[tM h]
 |.int k,x,(o+1,l)=>rfl|.bool,x,(0,[])=>rfl|.bool,x,(0,c::l)=>by simp only[Bf];rw[tM h]
 |.bool,x,(o+1,l)=>rfl|.str,x,(0,[])=>rfl|.str,x,(0,c::l)=>by simp only[Bf];rw[tM h]
 |.str,x,(o+1,l)=>rfl|.sl _ _,x,(0,[])=>rfl|.sl _ _,x,(0,c::l)=>by simp only[Bf];rw[tM h]
 |.sl _ _,x,(o+1,l)=>rfl
def Jg {t:Ty}{ok:Nat->Prop}{x:t.D}{c:List Value}(h:Rd w ok t x c)(b:t.n=1):∃u,c=[u]:=by
 have:=h.len;rw[b]at this;cases c with
 |nil=>cases this
 |cons u c =>
  cases c with
  |nil=>exact⟨u,rfl⟩|cons _ _=>simp at this
def W2 {ok:Nat->Prop}{bx:List (Nat×List AC)}{bl:List (Nat×Option fo)}{t:Ty}(f:t.n=1){c:AC}{l:List AC}{vs:List Value}{cs:List Value}{x:t.D}{y:t.D}{rest:List AC}
  (m:∀t b v xs,b∈c::l->bz G w bx bl b v->cx st t b=some xs->∀e,Rd w ok (.sl e t) xs [v]) (n:Rd w ok t x cs) (d:cg (bz G w bx bl) (c::l) vs) (p:im st t [c]=some (y,rest)) :
  ∃b g,Rd w ok t y b/\cg (bz G w bx bl) l g/\wrC cs 0 vs=(b,(0,g)):=by
 cases vs with
 |nil=>exact d.elim
 |cons v vs =>
  obtain⟨u,rfl⟩:=Jg n f;obtain⟨s,A,h,i,_,_⟩:=Ok (l:=[c]) (vs:=[v]) (fun t b q xs j=>m t b q xs (by simp at j;simp[j])) ⟨d.1,trivial⟩ p;obtain⟨z,rfl⟩:=Jg i f;have:z=v:=by simp at h;exact h.1.symm
  subst this;exact⟨[z],vs,i,d.2,by cases vs<;>rfl⟩
def ato {ok:Nat->Prop}{bx:List (Nat×List AC)}{bl:List (Nat×Option fo)}:∀{t:Ty} {x:t.D} {cs:List Value} {o:Nat} {l:List AC} {vs:List Value} {y:t.D} {j:Nat} {i:List AC},
  (∀t c v xs,c∈l->bz G w bx bl c v->cx st t c=some xs->∀e,Rd w ok (.sl e t) xs [v])->Rd w ok t x cs->cg (bz G w bx bl) l vs->Bf st t x (o,l)=some (y,(j,i)) ->
  ∃m p,Rd w ok t y m/\cg (bz G w bx bl) i p/\wrC cs o vs=(m,(j,p))/\∀c∈i,c∈l
 |.unit,x,cs,o,l,vs,y,j,i,g,d,f,b=>by simp only[Bf]at b;cases b;rw[show cs=[] from d];exact⟨[],vs,rfl,f,by cases o<;>rfl,fun _ h=>h⟩
 |.pair t u,x,cs,o,l,vs,y,j,i,g,d,f,b=>by
  obtain⟨Y,Z,rfl,F,H⟩:=d;simp only[Bf]at b;split at b
  .rename_i qa I q;obtain⟨qb,qd⟩:=I;split at b
   .rename_i qe L s;obtain⟨qf,qg⟩:=L;cases b;obtain⟨C,qh,M,N,O,D⟩:=ato g F f q;obtain⟨E,R,S,T,W,X⟩:=ato (fun t c v xs B=>g t c v xs (D c B)) H N s;refine⟨C++E,R,⟨C,E,rfl,M,S⟩,T,?_,fun c B=>D c (X c B)⟩;rw[atm,O];dsimp only;rw[W]
   .cases b
  .cases b
 |.int k,x,cs,0,[],vs,y,j,i,g,d,f,b=>by
  simp only[Bf]at b;cases b;cases vs with
  |nil=>exact⟨cs,[],d,trivial,abS cs,fun _ h=>h⟩
  |cons _ _=>exact f.elim
 |.bool,x,cs,0,[],vs,y,j,i,g,d,f,b=>by
  simp only[Bf]at b;cases b;cases vs with
  |nil=>exact⟨cs,[],d,trivial,abS cs,fun _ h=>h⟩
  |cons _ _=>exact f.elim
 |.str,x,cs,0,[],vs,y,j,i,g,d,f,b=>by
  simp only[Bf]at b;cases b;cases vs with
  |nil=>exact⟨cs,[],d,trivial,abS cs,fun _ h=>h⟩
  |cons _ _=>exact f.elim
 |.sl e t,x,cs,0,[],vs,y,j,i,g,d,f,b=>by
  simp only[Bf]at b;cases b;cases vs with
  |nil=>exact⟨cs,[],d,trivial,abS cs,fun _ h=>h⟩
  |cons _ _=>exact f.elim
 |.int k,x,cs,0,c::l,vs,y,j,i,g,d,f,b=>by
  simp only[Bf]at b;split at b
  .rename_i n rest z;cases b;obtain⟨m,p,q,s,A⟩:=W2 rfl g d f z;exact⟨m,p,q,s,A,fun _ h=>by simp[h]⟩
  .cases b
 |.bool,x,cs,0,c::l,vs,y,j,i,g,d,f,b=>by
  simp only[Bf]at b;split at b
  .rename_i n rest z;cases b;obtain⟨m,p,q,s,A⟩:=W2 rfl g d f z;exact⟨m,p,q,s,A,fun _ h=>by simp[h]⟩
  .cases b
 |.str,x,cs,0,c::l,vs,y,j,i,g,d,f,b=>by
  simp only[Bf]at b;split at b
  .rename_i n rest z;cases b;obtain⟨m,p,q,s,A⟩:=W2 rfl g d f z;exact⟨m,p,q,s,A,fun _ h=>by simp[h]⟩
  .cases b
 |.sl e t,x,cs,0,c::l,vs,y,j,i,g,d,f,b=>by
  simp only[Bf]at b;split at b
  .rename_i n rest z;cases b;obtain⟨m,p,q,s,A⟩:=W2 rfl g d f z;exact⟨m,p,q,s,A,fun _ h=>by simp[h]⟩
  .cases b
 |.int k,x,cs,o+1,l,vs,y,j,i,g,d,f,b=>by simp only[Bf]at b;cases b;obtain⟨u,rfl⟩:=Jg d rfl;exact⟨[u],vs,d,f,by cases o<;>rfl,fun _ h=>h⟩
 |.bool,x,cs,o+1,l,vs,y,j,i,g,d,f,b=>by simp only[Bf]at b;cases b;obtain⟨u,rfl⟩:=Jg d rfl;exact⟨[u],vs,d,f,by cases o<;>rfl,fun _ h=>h⟩
 |.str,x,cs,o+1,l,vs,y,j,i,g,d,f,b=>by simp only[Bf]at b;cases b;obtain⟨u,rfl⟩:=Jg d rfl;exact⟨[u],vs,d,f,by cases o<;>rfl,fun _ h=>h⟩
 |.sl e t,x,cs,o+1,l,vs,y,j,i,g,d,f,b=>by simp only[Bf]at b;cases b;obtain⟨u,rfl⟩:=Jg d rfl;exact⟨[u],vs,d,f,by cases o<;>rfl,fun _ h=>h⟩
def Ol:∀{l:List AC},cj l=true->∀f e t xs,AC.ro f e t xs∈l->f=true
 |[],_,f,e,t,xs,hm=>by simp at hm
 |c::l,h,f,e,t,xs,hm=>by
  have b:cj l=true/\∀f e t xs,c=.ro f e t xs->f=true:=by
   cases c with
   |ro f e t xs =>
    simp only[cj,aA]at h;exact⟨h.2,fun g d i j e=>by cases e;exact h.1⟩
   |_=>exact⟨h,fun f e t xs d=>by cases d⟩
  rcases cN.1 hm with hm|hm
  .exact b.2 f e t xs hm.symm
  .exact Ol b.1 f e t xs hm
def alK:∀{l:List AC},oy st l=true->∀id len,AC.own id len∈l->∃b,st.oG id=some b/\b.f=true
 |[],_,id,len,hm=>by simp at hm
 |c::l,h,id,len,hm=>by
  have f:oy st l=true/\∀d m,c=.own d m->∃b,st.oG d=some b/\b.f=true:=by
   cases c with
   |own d m =>
    simp only[oy,aA]at h;refine⟨h.2,fun i j e=>?_⟩;cases e;cases g:st.oG d with
    |none=>rw[g]at h;simp at h|some b=>rw[g]at h;exact⟨b,rfl,h.1⟩
   |_=>exact⟨h,fun d m e=>by cases e⟩
  rcases cN.1 hm with hm|hm
  .exact f.2 id len hm.symm
  .exact alK f.1 id len hm
def abT {id:Nat}:∀(l:List AC) (st:St),ayG id l=true->look (st.freeze l).bl id=look st.bl id
 |[],st,_=>rfl|c::l,st,h=>by
  show look ((st.dx c).freeze l).bl id=_;have f:ayG id l=true/\∀d m,c=.own d m->d≠id:=by
   cases c with
   |own d m =>
    simp only[ayG,aA]at h;refine⟨h.2,fun i j e=>?_⟩;cases e;exact bD h.1
   |_=>exact⟨h,fun d m e=>by cases e⟩
  rw[abT l _ f.1];cases c with
  |own d m =>
   cases g:st.oG d with
   |none=>rw[QN g]
   |some b =>
    rw[mB g];have:=f.2 d m rfl;simp[aq,this]
  |_=>rfl
def Om {d:Gh}{l:List AC}(p:Inv w0 d (st.freeze l) a w)(q:oy st l=true){nf:Bool}(s:nf=true->cj l=true){bx:List (Nat×List AC)} :
  ∀t c v xs,c∈l->bz d w (st.freeze l).bx (st.freeze l).bl c v->cx (st.freeze l) t c=some xs->∀e,Rd w (RO d nf) (.sl e t) xs [v]:=by
 intro t c v xs h x y e;have m:∀f,(nf=true->f=true)->∀g,RO d f g->RO d nf g:=fun f i g z=>z.Jc i
 refine jO p x y (fun id len b j A=>?_) (fun f e u B j=>?_) e
 .subst j;obtain⟨n,C,i⟩:=alK q id len h;have:=Jf l st id len n h (dA C);rw[A]at this;cases this;exact⟨m n.f fun _=>i,fun D=>by cases D⟩
 .subst j;exact m f fun E=>Ol (s E) f e u B h
def aiQ (h:Inv w0 G st a w)(t:TypeId)(x y:Operand)(qD:o.op=.store t x y)(qE:(st.dR y).kn=true)(T:ahk (st.dR y).cells=true)(hs:P.cellsOf t=(st.dR y).cells.length)(qF:(P.info? t).isSome=true)
  {id:Nat} {i:Int} {d:Nat} (qG:st.ac x=.Be id i d) {b:fo} (qH:st.oG id=some b) (E:b.w=true) (W:oy st (st.dR y).cells=true) (X:ayG id (st.dR y).cells=true)
  {z:b.t.D} (Y:Bf st b.t (b.xs.getD i.toNat b.t.aC) (d,(st.dR y).cells)=some (z,(0,[])))
  (Z:({(st.freeze (st.dR y).cells) with bl:=(id,some {b with xs:=b.xs.set i.toNat z,f:=b.f&&cj (st.dR y).cells})::(st.freeze (st.dR y).cells).bl}:St).pk o.dst (.TV []) k=some r) (qI:ra w0 k r K):o.wp P a w K Q:=by
 have qK:=dA qH;have qa:=(h.dR y).cells qE;have qb:=h.ac x;rw[qG]at qb;obtain⟨cs,qL⟩:∃cs,(st.dR y).cells=cs:=⟨_,rfl⟩;rw[qL]at Z Y W X hs T qa;obtain⟨s,I,qd,qe,qM⟩:=Inv.freeze cs h;have F:cg (bz s w (st.freeze cs).bx (st.freeze cs).bl) cs (a.eval y).cells.toList:=qa.imp fun _ _=>bz.mono qd qe
 have qN:=bz.mono qd qe (c:=.Be id i d) qb;have L:look (st.freeze cs).bl id=some (some b):=(abT cs st X).trans qK;obtain⟨_,_,xv,g,q,n,cap,C,xw,M⟩:=qN;have M:=M b L;have qf:=I.bl id b L;obtain⟨rows,bm,qg,qh⟩:=qf.wr E;obtain⟨hlen,qO⟩:=bm;rcases qO with ⟨D,_⟩|⟨xy,xz,cur,D,qP,qi,qj,qQ,qk,ql⟩
 .rw[C]at D;cases D
 .rw[C]at D;injection D with N qR qS
  injection N with N
  injection N with qT qW _
  subst qT qW qR qS;have qX:=qg g (by rw[C];rfl);have qY:i.toNat<b.xs.length:=by omega
  obtain⟨c,qm,qZ⟩:=qh i.toNat _ (getD_some qY b.t.aC);have xa:∀f:Bool,((b.f&&cj cs)=true->f=true)->∀g,RO s f g->RO s (b.f&&cj cs) g:=fun f xb g xc=>xc.Jc xb
  have qn:∀g,RO s b.f g->RO s (b.f&&cj cs) g:=xa b.f fun h=>by simp at h;exact h.1
  have xd:Bf (st.freeze cs) b.t (b.xs.getD i.toNat b.t.aC) (d,cs)=some (z,(0,[])):=by rw[aeT qM];exact Y
  obtain⟨qo,qp,qq,xe,qt,_⟩:=ato (ok:=RO s (b.f&&cj cs)) (Om (bx:=st.bx) I W fun h=>by simp at h;exact h.2) (ic qn qm) F xd;have A:qp=[]:=by
   cases qp with
   |nil=>rfl|cons _ _=>exact xe.elim
  subst A;obtain⟨xf,qu⟩:=atn c d _ qo qt;have xA:=qm.len;have qv:=akN F (abR T);have qw:=F.len;have xB:cur.size=cap*b.t.n:=qk;have xg:(i.toNat+1)*b.t.n<=b.xs.length*b.t.n:=Gg _ (by omega);have xC:b.xs.length*b.t.n<=cap*b.t.n:=Gg _ qj;rw[Li,QF]at xg;obtain⟨l,A⟩:∃l,(a.eval y).cells.toList=l:=⟨_,rfl⟩;rw[A]at F qw qv qt qu xf;have qx:i.toNat*b.t.n+d+l.length<=cur.toList.length:=by simp;omega
  have O:=abQ (P:=P) (t:=t) (o:=0+(i.toNat*b.t.n+d)) (v:=a.eval y) (by rw[hs,A];exact qw) qF qi (by rw[A];simp at qx ⊢;omega) (by rw[A];exact qv);rw[A,we]at O;have R:∀q:Nat,(cur.toList.take (i.toNat*b.t.n+d)++l++cur.toList.drop (i.toNat*b.t.n+d+l.length))[q]?=if i.toNat*b.t.n+d<=q/\q<i.toNat*b.t.n+d+l.length then l[q-(i.toNat*b.t.n+d)]? else cur.toList[q]?:=fun q=>ayU qx q
  obtain⟨m,qy⟩:∃m,cur.toList.take (i.toNat*b.t.n+d)++l++cur.toList.drop (i.toNat*b.t.n+d+l.length)=m:=⟨_,rfl⟩;rw[qy]at O R;have qz:m.length=cur.size:=by rw[<-qy];simp;omega
  have qA:=Z7 (w:=w) (cs:=m.toArray) qX (by simp);have xh:Et s (w.setRow g m.toArray) id {b with xs:=b.xs.set i.toNat z,f:=b.f&&cj cs}:=by
   refine⟨fun _=>⟨m.take (b.xs.length*b.t.n),⟨?_,.inr ⟨g,cap,m.toArray,?_,qP,setRow_heap w g cur _ _ _ qi,by simpa using qj,qQ,by simp[qz,qk],by simp⟩⟩,qg,?_⟩,fun xi=>?_,qf.pos⟩
   .simp[qz];omega
   .simp[C]
   .intro j S B;dsimp only at B;have xj:j<b.xs.length:=by
     rcases Lh j b.xs.length with h|h
     .exact h
     .simp[List.getElem?_eq_none (show(b.xs.set i.toNat z).length<=j by simpa using h)]at B
    have xk:(j+1)*b.t.n<=b.xs.length*b.t.n:=Gg _ (by omega);rw[Li,QF]at xk;by_cases H:j=i.toNat
    .subst H;have:S=z:=by rw[List.getElem?_set]at B;simp[xj]at B;exact B.symm
     rw[this];refine⟨qo,qA.rd qq,fun ii u p=>?_⟩;have xm:ii<b.t.n:=by have:=qq.len;have xn:=(wb.1 p).1;omega
     rw[qu]at p;show(m.take (b.xs.length*b.t.n))[i.toNat*b.t.n+ii]?=some u;rw[Of,ag (by omega),R];by_cases qB:d<=ii/\ii<d+l.length
     .rw[ag qB]at p;rw[ag (by omega),show i.toNat*b.t.n+ii-(i.toNat*b.t.n+d)=ii-d by omega];exact p
     .rw[af qB]at p;rw[af (by omega)];have:=qZ ii u p;rw[<-ql,Of,ag (by omega)]at this;exact this
    .have xp:b.xs[j]?=some S:=by rw[List.getElem?_set]at B;simpa [fun e=>H (Eq.symm e),show ¬i.toNat=j from fun e=>H e.symm]using B
     obtain⟨xq,qC,xr⟩:=qh j S xp;refine⟨xq,ic qn (qA.rd qC),fun ii u p=>?_⟩;have xm:ii<b.t.n:=by have:=qC.len;have xn:=(wb.1 p).1;omega
     show(m.take (b.xs.length*b.t.n))[j*b.t.n+ii]?=some u;have xu:¬(i.toNat*b.t.n+d<=j*b.t.n+ii/\j*b.t.n+ii<i.toNat*b.t.n+d+l.length):=by
      rcases Nat.lt_or_gt_of_ne H with hlt|xD
      .have:(j+1)*b.t.n<=i.toNat*b.t.n:=Gg _ (by omega);rw[Li,QF]at this;omega
      .have:(i.toNat+1)*b.t.n<=j*b.t.n:=Gg _ (by omega);rw[Li,QF]at this;omega
     rw[Of,ag (by omega),R,af xu];have:=xr ii u p;rw[<-ql,Of,ag (by omega)]at this;exact this
   .rw[show b.w=false from xi]at E;cases E
  have hinv:=I.aGa id b L E g (by rw[C];rfl) m.toArray {b with xs:=b.xs.set i.toNat z,f:=b.f&&cj cs} rfl xh;refine aDR (w':=w.setRow g m.toArray) ?_ (w6 hinv (v:=.TV []) (u:=undef) ⟨#[],rfl,trivial⟩ Z qI);unfold execOp;rw[qD];dsimp only;rw[M];simp only[Instr.storeAt,Instr.sureAddr,Sem.run_bind,Sem.run_pure,Result.andThen_ok,we,O]
end
end Go.Am
