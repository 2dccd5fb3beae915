/- No condition. -/
import Derived.Test.YtpkabclplaibaaaGreatDoorQwAmOps4
set_option linter.all false
namespace Go.Am
open Go.RowKit
variable [ei]
def wrC:List Value->Nat->List Value->List Value×(Nat×List Value)
 |[],o,b=>([],(o,b))|u::c,o+1,b=>let q:=wrC c o b;(u::q.1,q.2)
 |u::c,0,[]=>(u::c,(0,[]))|u::c,0,v::b=>let q:=wrC c 0 b;(v::q.1,q.2)
def abr:∀(c:List Value),wrC c 0 []=(c,(0,[]))
 |[]=>rfl|_::_=>rfl
def aq1:∀(b c:List Value) (o:Nat) (vs:List Value),wrC (b++c) o vs=((wrC b o vs).1++(wrC c (wrC b o vs).2.1 (wrC b o vs).2.2).1,(wrC c (wrC b o vs).2.1 (wrC b o vs).2.2).2)
 |[],c,o,vs=>by cases o<;>rfl
 |u::b,c,o+1,vs=>by simp only[Gp,wrC,aq1 b c o vs]
 |u::b,c,0,[]=>by simp only[Gp,wrC,abr]
 |u::b,c,0,v::vs=>by simp only[Gp,wrC,aq1 b c 0 vs]
def aq2:∀(c:List Value) (o:Nat) (vs b:List Value),wrC c o vs=(b,(0,[]))->o+vs.length<=c.length/\∀i,b[i]?=if o<=i/\i<o+vs.length then vs[i-o]? else c[i]?
 |[],o,vs,b,h=>by
  cases o<;>(simp[wrC]at h)
  obtain⟨rfl,rfl⟩:=h;simp
 |u::c,o+1,vs,b,h=>by
  simp only[wrC]at h;injection h with d e
  obtain⟨g,f⟩:=aq2 c o vs (wrC c o vs).1 (by rw[<-e]);subst d;refine⟨by simp;omega,fun i=>?_⟩;cases i with
  |zero=>simp
  |succ i =>
   simp only[av1,f i];have j:(o+1<=i+1/\i+1<o+1+vs.length)↔(o<=i/\i<o+vs.length):=by omega
   simp only[j,show i+1-(o+1)=i-o by omega]
 |u::c,0,[],b,h=>by simp[wrC]at h;subst h;refine⟨by simp,fun i=>?_⟩;rw[ag (by simp)]
 |u::c,0,v::vs,b,h=>by
  simp only[wrC]at h;injection h with d e
  obtain⟨g,f⟩:=aq2 c 0 vs (wrC c 0 vs).1 (by rw[<-e]);subst d;refine⟨by simp at g ⊢;omega,fun i=>?_⟩;cases i with
  |zero=>simp
  |succ i =>
   simp only[av1,f i];by_cases l:i<vs.length
   .rw[ak ⟨by omega,by omega⟩,ak ⟨by omega,by simp;omega⟩];simp
   .rw[ag (by omega),ag (by simp;omega)]
def awp {b vs:List Value}{p:Nat}(h:p+vs.length<=b.length)(q:Nat):(b.take p++vs++b.drop (p+vs.length))[q]?=if p<=q/\q<p+vs.length then vs[q-p]? else b[q]?:=by
 simp only[ku,aqB,bQ,Ls,af9];have e:min p b.length=p:=by omega
 rw[e];by_cases c:q<p
 .rw[ak c,ak c,ag (by omega)]
 .rw[ag c];by_cases d:q-p<vs.length
  .rw[ak d,ak ⟨by omega,by omega⟩]
  .rw[ag d,ag (by omega)]
   congr 1
   omega
section
variable {P:Program} {w0:dY} {w:World} {G:Gh} {st:St} {a:Act} {U:Type} {k:St->Option U} {r:U} {K:Act->World->Prop} {Q:Exit->Act->World->Prop} {o:Oper}
def ad1 {st cp:St}(h:fW st cp):∀(t:Ty) (x:t.D) (s:Nat×List AC),A8 cp t x s=A8 st t x s
 |.unit,x,s=>rfl|.pair t u,x,s=>by
  simp only[A8];rw[ad1 h t];cases A8 st t x.1 s with
  |none=>rfl|some y=>dsimp only;rw[ad1 h u]
 |.int k,x,(0,[])=>rfl|.int k,x,(0,c::l)=>by simp only[A8];rw[tG h]
 |.int k,x,(o+1,l)=>rfl|.bool,x,(0,[])=>rfl|.bool,x,(0,c::l)=>by simp only[A8];rw[tG h]
 |.bool,x,(o+1,l)=>rfl|.str,x,(0,[])=>rfl|.str,x,(0,c::l)=>by simp only[A8];rw[tG h]
 |.str,x,(o+1,l)=>rfl|.sl _ _,x,(0,[])=>rfl|.sl _ _,x,(0,c::l)=>by simp only[A8];rw[tG h]
 |.sl _ _,x,(o+1,l)=>rfl
def Jm {t:Ty}{ok:Nat->Prop}{x:t.D}{c:List Value}(h:Rd w ok t x c)(b:t.n=1):∃u,c=[u]:=by
 have:=h.len;rw[b]at this;cases c with
 |nil=>cases this
 |cons u c =>
  cases c with
  |nil=>exact⟨u,rfl⟩|cons _ _=>simp at this
def WE {ok:Nat->Prop}{bx:List (Nat×List AC)}{bl:List (Nat×Option eF)}{t:Ty}(f:t.n=1){c:AC}{l:List AC}{vs:List Value}{cs:List Value}{x:t.D}{y:t.D}{rest:List AC}
  (m:∀e t b v xs,b∈c::l->bo G w bx bl b v->cn st e t b=some xs->Rd w ok (.sl e t) xs [v]) (n:Rd w ok t x cs) (d:bY (bo G w bx bl) (c::l) vs) (hi:im st t [c]=some (y,rest)) :
  ∃b g,Rd w ok t y b/\bY (bo G w bx bl) l g/\wrC cs 0 vs=(b,(0,g)):=by
 cases vs with
 |nil=>exact d.elim
 |cons v vs =>
  obtain⟨u,rfl⟩:=Jm n f;obtain⟨q,s,h,i,_,_⟩:=Oi (l:=[c]) (vs:=[v]) (fun e t b p xs j=>m e t b p xs (by simp at j;simp[j])) ⟨d.1,trivial⟩ hi;obtain⟨z,rfl⟩:=Jm i f;have:z=v:=by simp at h;exact h.1.symm
  subst this;exact⟨[z],vs,i,d.2,by cases vs<;>rfl⟩
def aq3 {ok:Nat->Prop}{bx:List (Nat×List AC)}{bl:List (Nat×Option eF)}:∀{t:Ty} {x:t.D} {cs:List Value} {o:Nat} {l:List AC} {vs:List Value} {y:t.D} {j:Nat} {i:List AC},
  (∀e t c v xs,c∈l->bo G w bx bl c v->cn st e t c=some xs->Rd w ok (.sl e t) xs [v])->Rd w ok t x cs->bY (bo G w bx bl) l vs->A8 st t x (o,l)=some (y,(j,i)) ->
  ∃m p,Rd w ok t y m/\bY (bo G w bx bl) i p/\wrC cs o vs=(m,(j,p))/\∀c∈i,c∈l
 |.unit,x,cs,o,l,vs,y,j,i,g,d,f,b=>by simp only[A8]at b;cases b;rw[show cs=[] from d];exact⟨[],vs,rfl,f,by cases o<;>rfl,fun _ h=>h⟩
 |.pair t u,x,cs,o,l,vs,y,j,i,g,d,f,b=>by
  obtain⟨Y,Z,rfl,F,H⟩:=d;simp only[A8]at b;split at b
  .rename_i qd I q;obtain⟨qe,qf⟩:=I;split at b
   .rename_i qg L s;obtain⟨qh,qi⟩:=L;cases b;obtain⟨C,qj,M,N,O,D⟩:=aq3 g F f q;obtain⟨E,R,S,T,W,X⟩:=aq3 (fun e t c v xs B=>g e t c v xs (D c B)) H N s;refine⟨C++E,R,⟨C,E,rfl,M,S⟩,T,?_,fun c B=>D c (X c B)⟩;rw[aq1,O];dsimp only;rw[W]
   .cases b
  .cases b
 |.int k,x,cs,0,[],vs,y,j,i,g,d,f,b=>by
  simp only[A8]at b;cases b;cases vs with
  |nil=>exact⟨cs,[],d,trivial,abr cs,fun _ h=>h⟩
  |cons _ _=>exact f.elim
 |.bool,x,cs,0,[],vs,y,j,i,g,d,f,b=>by
  simp only[A8]at b;cases b;cases vs with
  |nil=>exact⟨cs,[],d,trivial,abr cs,fun _ h=>h⟩
  |cons _ _=>exact f.elim
 |.str,x,cs,0,[],vs,y,j,i,g,d,f,b=>by
  simp only[A8]at b;cases b;cases vs with
  |nil=>exact⟨cs,[],d,trivial,abr cs,fun _ h=>h⟩
  |cons _ _=>exact f.elim
 |.sl e t,x,cs,0,[],vs,y,j,i,g,d,f,b=>by
  simp only[A8]at b;cases b;cases vs with
  |nil=>exact⟨cs,[],d,trivial,abr cs,fun _ h=>h⟩
  |cons _ _=>exact f.elim
 |.int k,x,cs,0,c::l,vs,y,j,i,g,d,f,b=>by
  simp only[A8]at b;split at b
  .rename_i n rest z;cases b;obtain⟨m,p,q,s,A⟩:=WE rfl g d f z;exact⟨m,p,q,s,A,fun _ h=>by simp[h]⟩
  .cases b
 |.bool,x,cs,0,c::l,vs,y,j,i,g,d,f,b=>by
  simp only[A8]at b;split at b
  .rename_i n rest z;cases b;obtain⟨m,p,q,s,A⟩:=WE rfl g d f z;exact⟨m,p,q,s,A,fun _ h=>by simp[h]⟩
  .cases b
 |.str,x,cs,0,c::l,vs,y,j,i,g,d,f,b=>by
  simp only[A8]at b;split at b
  .rename_i n rest z;cases b;obtain⟨m,p,q,s,A⟩:=WE rfl g d f z;exact⟨m,p,q,s,A,fun _ h=>by simp[h]⟩
  .cases b
 |.sl e t,x,cs,0,c::l,vs,y,j,i,g,d,f,b=>by
  simp only[A8]at b;split at b
  .rename_i n rest z;cases b;obtain⟨m,p,q,s,A⟩:=WE rfl g d f z;exact⟨m,p,q,s,A,fun _ h=>by simp[h]⟩
  .cases b
 |.int k,x,cs,o+1,l,vs,y,j,i,g,d,f,b=>by simp only[A8]at b;cases b;obtain⟨u,rfl⟩:=Jm d rfl;exact⟨[u],vs,d,f,by cases o<;>rfl,fun _ h=>h⟩
 |.bool,x,cs,o+1,l,vs,y,j,i,g,d,f,b=>by simp only[A8]at b;cases b;obtain⟨u,rfl⟩:=Jm d rfl;exact⟨[u],vs,d,f,by cases o<;>rfl,fun _ h=>h⟩
 |.str,x,cs,o+1,l,vs,y,j,i,g,d,f,b=>by simp only[A8]at b;cases b;obtain⟨u,rfl⟩:=Jm d rfl;exact⟨[u],vs,d,f,by cases o<;>rfl,fun _ h=>h⟩
 |.sl e t,x,cs,o+1,l,vs,y,j,i,g,d,f,b=>by simp only[A8]at b;cases b;obtain⟨u,rfl⟩:=Jm d rfl;exact⟨[u],vs,d,f,by cases o<;>rfl,fun _ h=>h⟩
def Oj:∀{l:List AC},b5 l=true->∀f e t xs,AC.ro f e t xs∈l->f=true
 |[],_,f,e,t,xs,hm=>by simp at hm
 |c::l,h,f,e,t,xs,hm=>by
  have b:b5 l=true/\∀f e t xs,c=.ro f e t xs->f=true:=by
   cases c with
   |ro f e t xs =>
    simp only[b5,aE]at h;exact⟨h.2,fun g d i j e=>by cases e;exact h.1⟩
   |_=>exact⟨h,fun f e t xs d=>by cases d⟩
  rcases cK.1 hm with hm|hm
  .exact b.2 f e t xs hm.symm
  .exact Oj b.1 f e t xs hm
def aj0:∀{l:List AC},oj st l=true->∀id len,AC.own id len∈l->∃b,st.oi id=some b/\b.f=true
 |[],_,id,len,hm=>by simp at hm
 |c::l,h,id,len,hm=>by
  have f:oj st l=true/\∀d m,c=.own d m->∃b,st.oi d=some b/\b.f=true:=by
   cases c with
   |own d m =>
    simp only[oj,aE]at h;refine⟨h.2,fun i j e=>?_⟩;cases e;cases g:st.oi d with
    |none=>rw[g]at h;simp at h|some b=>rw[g]at h;exact⟨b,rfl,h.1⟩
   |_=>exact⟨h,fun d m e=>by cases e⟩
  rcases cK.1 hm with hm|hm
  .exact f.2 id len hm.symm
  .exact aj0 f.1 id len hm
def abt {id:Nat}:∀(l:List AC) (st:St),awa id l=true->look (st.freeze l).bl id=look st.bl id
 |[],st,_=>rfl|c::l,st,h=>by
  show look ((st.di c).freeze l).bl id=_;have f:awa id l=true/\∀d m,c=.own d m->d≠id:=by
   cases c with
   |own d m =>
    simp only[awa,aE]at h;refine⟨h.2,fun i j e=>?_⟩;cases e;exact bu h.1
   |_=>exact⟨h,fun d m e=>by cases e⟩
  rw[abt l _ f.1];cases c with
  |own d m =>
   cases g:st.oi d with
   |none=>rw[Qn g]
   |some b =>
    rw[mh g];have:=f.2 d m rfl;simp[ar,this]
  |_=>rfl
def Ok {d:Gh}{l:List AC}(p:Inv w0 d (st.freeze l) a w)(q:oj st l=true){nf:Bool}(s:nf=true->b5 l=true){bx:List (Nat×List AC)} :
  ∀e t c v xs,c∈l->bo d w (st.freeze l).bx (st.freeze l).bl c v->cn (st.freeze l) e t c=some xs->Rd w (RO d nf) (.sl e t) xs [v]:=by
 intro e t c v xs h x y;have m:∀f,(nf=true->f=true)->∀g,RO d f g->RO d nf g:=fun f i g z=>z.Ji i
 refine jv p x y (fun id len b j A=>?_) (fun f e u B j=>?_)
 .subst j;obtain⟨n,C,i⟩:=aj0 q id len h;have:=Jl l st id len n h (dm C);rw[A]at this;cases this;exact⟨m n.f fun _=>i,fun D=>by cases D⟩
 .subst j;exact m f fun E=>Oj (s E) f e u B h
def ahn (h:Inv w0 G st a w)(t:TypeId)(x y:Operand)(qG:o.op=.store t x y)(qH:(st.dB y).kn=true)(T:agh (st.dB y).cells=true)(W:P.cellsOf t=(st.dB y).cells.length)(hi:(P.info? t).isSome=true)
  {id:Nat} {i:Int} {d:Nat} (qI:st.ac x=.wS id i d) {b:eF} (qK:st.oi id=some b) (E:b.w=true) (X:oj st (st.dB y).cells=true) (Y:awa id (st.dB y).cells=true)
  {z:b.t.D} (Z:A8 st b.t (b.xs.getD i.toNat b.t.az) (d,(st.dB y).cells)=some (z,(0,[])))
  (qd:({(st.freeze (st.dB y).cells) with bl:=(id,some {b with xs:=b.xs.set i.toNat z,f:=b.f&&b5 (st.dB y).cells})::(st.freeze (st.dB y).cells).bl}:St).pk o.dst (.Qe []) k=some r) (qL:q9 w0 k r K):o.wp P a w K Q:=by
 have qM:=dm qK;have qe:=(h.dB y).cells qH;have qf:=h.ac x;rw[qI]at qf;obtain⟨cs,qN⟩:∃cs,(st.dB y).cells=cs:=⟨_,rfl⟩;rw[qN]at qd Z X Y W T qe;obtain⟨s,I,qg,qh,qO⟩:=Inv.freeze cs h;have F:bY (bo s w (st.freeze cs).bx (st.freeze cs).bl) cs (a.eval y).cells.toList:=qe.imp fun _ _=>bo.mono qg qh
 have qP:=bo.mono qg qh (c:=.wS id i d) qf;have L:look (st.freeze cs).bl id=some (some b):=(abt cs st Y).trans qM;obtain⟨_,_,xy,g,q,n,cap,C,xz,M⟩:=qP;have M:=M b L;have qi:=I.bl id b L;obtain⟨rows,bf,qj,qk⟩:=qi.wr E;obtain⟨hlen,qQ⟩:=bf;rcases qQ with ⟨D,_⟩|⟨xA,xB,cur,D,qR,ql,qm,qS,qn,qo⟩
 .rw[C]at D;cases D
 .rw[C]at D;injection D with N qT qW
  injection N with N
  injection N with qX qY _
  subst qX qY qT qW;have qZ:=qj g (by rw[C];rfl);have xa:i.toNat<b.xs.length:=by omega
  obtain⟨c,qp,xb⟩:=qk i.toNat _ (BS xa b.t.az);have xc:∀f:Bool,((b.f&&b5 cs)=true->f=true)->∀g,RO s f g->RO s (b.f&&b5 cs) g:=fun f xd g xe=>xe.Ji xd
  have qq:∀g,RO s b.f g->RO s (b.f&&b5 cs) g:=xc b.f fun h=>by simp at h;exact h.1
  have xf:A8 (st.freeze cs) b.t (b.xs.getD i.toNat b.t.az) (d,cs)=some (z,(0,[])):=by rw[ad1 qO];exact Z
  obtain⟨qt,qu,qv,xg,qw,_⟩:=aq3 (ok:=RO s (b.f&&b5 cs)) (Ok (bx:=st.bx) I X fun h=>by simp at h;exact h.2) (gv qq qp) F xf;have A:qu=[]:=by
   cases qu with
   |nil=>rfl|cons _ _=>exact xg.elim
  subst A;obtain⟨xh,qx⟩:=aq2 c d _ qt qw;have xC:=qp.len;have qy:=ajb F (abq T);have qz:=F.len;have xD:cur.size=cap*b.t.n:=qn;have xi:(i.toNat+1)*b.t.n<=b.xs.length*b.t.n:=Bb _ (by omega);have xE:b.xs.length*b.t.n<=cap*b.t.n:=Bb _ qm;rw[Jd,NJ]at xi;obtain⟨l,A⟩:∃l,(a.eval y).cells.toList=l:=⟨_,rfl⟩;rw[A]at F qz qy qw qx xh;have qA:i.toNat*b.t.n+d+l.length<=cur.toList.length:=by simp;omega
  have O:=abp (P:=P) (t:=t) (o:=0+(i.toNat*b.t.n+d)) (v:=a.eval y) (by rw[W,A];exact qz) hi ql (by rw[A];simp at qA ⊢;omega) (by rw[A];exact qy);rw[A,vS]at O;have R:∀q:Nat,(cur.toList.take (i.toNat*b.t.n+d)++l++cur.toList.drop (i.toNat*b.t.n+d+l.length))[q]?=if i.toNat*b.t.n+d<=q/\q<i.toNat*b.t.n+d+l.length then l[q-(i.toNat*b.t.n+d)]? else cur.toList[q]?:=fun q=>awp qA q
  obtain⟨m,qB⟩:∃m,cur.toList.take (i.toNat*b.t.n+d)++l++cur.toList.drop (i.toNat*b.t.n+d+l.length)=m:=⟨_,rfl⟩;rw[qB]at O R;have qC:m.length=cur.size:=by rw[<-qB];simp;omega
  have qD:=ZA (w:=w) (cs:=m.toArray) qZ (by simp);have xj:EB s (w.setRow g m.toArray) id {b with xs:=b.xs.set i.toNat z,f:=b.f&&b5 cs}:=by
   refine⟨fun _=>⟨m.take (b.xs.length*b.t.n),⟨?_,.inr ⟨g,cap,m.toArray,?_,qR,setRow_heap w g cur _ _ _ ql,by simpa using qm,qS,by simp[qC,qn],by simp⟩⟩,qj,?_⟩,fun xk=>?_,qi.pos⟩
   .simp[qC];omega
   .simp[C]
   .intro j S B;dsimp only at B;have xm:j<b.xs.length:=by
     rcases Rr j b.xs.length with h|h
     .exact h
     .simp[List.getElem?_eq_none (show(b.xs.set i.toNat z).length<=j by simpa using h)]at B
    have xn:(j+1)*b.t.n<=b.xs.length*b.t.n:=Bb _ (by omega);rw[Jd,NJ]at xn;by_cases H:j=i.toNat
    .subst H;have:S=z:=by rw[List.getElem?_set]at B;simp[xm]at B;exact B.symm
     rw[this];refine⟨qt,qD.rd qv,fun ii u p=>?_⟩;have xp:ii<b.t.n:=by have:=qv.len;have xq:=(oC.1 p).1;omega
     rw[qx]at p;show(m.take (b.xs.length*b.t.n))[i.toNat*b.t.n+ii]?=some u;rw[Ls,ak (by omega),R];by_cases qE:d<=ii/\ii<d+l.length
     .rw[ak qE]at p;rw[ak (by omega),show i.toNat*b.t.n+ii-(i.toNat*b.t.n+d)=ii-d by omega];exact p
     .rw[ag qE]at p;rw[ag (by omega)];have:=xb ii u p;rw[<-qo,Ls,ak (by omega)]at this;exact this
    .have xr:b.xs[j]?=some S:=by rw[List.getElem?_set]at B;simpa [fun e=>H (Eq.symm e),show ¬i.toNat=j from fun e=>H e.symm]using B
     obtain⟨xu,qF,xv⟩:=qk j S xr;refine⟨xu,gv qq (qD.rd qF),fun ii u p=>?_⟩;have xp:ii<b.t.n:=by have:=qF.len;have xq:=(oC.1 p).1;omega
     show(m.take (b.xs.length*b.t.n))[j*b.t.n+ii]?=some u;have xw:¬(i.toNat*b.t.n+d<=j*b.t.n+ii/\j*b.t.n+ii<i.toNat*b.t.n+d+l.length):=by
      rcases Nat.lt_or_gt_of_ne H with hlt|xF
      .have:(j+1)*b.t.n<=i.toNat*b.t.n:=Bb _ (by omega);rw[Jd,NJ]at this;omega
      .have:(i.toNat+1)*b.t.n<=j*b.t.n:=Bb _ (by omega);rw[Jd,NJ]at this;omega
     rw[Ls,ak (by omega),R,ag xw];have:=xv ii u p;rw[<-qo,Ls,ak (by omega)]at this;exact this
   .rw[show b.w=false from xk]at E;cases E
  have hinv:=I.aDP id b L E g (by rw[C];rfl) m.toArray {b with xs:=b.xs.set i.toNat z,f:=b.f&&b5 cs} rfl xj;refine aBs (w':=w.setRow g m.toArray) ?_ (wW hinv (v:=.Qe []) (u:=undef) ⟨#[],rfl,trivial⟩ qd qL);unfold execOp;rw[qG];dsimp only;rw[M];simp only[Instr.storeAt,Instr.sureAddr,Sem.run_bind,Sem.run_pure,Result.andThen_ok,vS,O]
end
end Go.Am
