/- No condition. -/
import Derived.Test.YtnllfndlcahalaaGreatDoorQfAmOps4
set_option linter.all false
namespace Go.Am
open Go.RowKit
def wrC:List Value->Nat->List Value->List Value×(Nat×List Value)
 |[],o,b=>([],(o,b))|u::c,o+1,b=>let q:=wrC c o b;(u::q.1,q.2)
 |u::c,0,[]=>(u::c,(0,[]))|u::c,0,v::b=>let q:=wrC c 0 b;(v::q.1,q.2)
def adG:∀(c:List Value),wrC c 0 []=(c,(0,[]))
 |[]=>rfl|_::_=>rfl
def ave:∀(b c:List Value) (o:Nat) (vs:List Value),wrC (b++c) o vs=((wrC b o vs).1++(wrC c (wrC b o vs).2.1 (wrC b o vs).2.2).1,(wrC c (wrC b o vs).2.1 (wrC b o vs).2.2).2)
 |[],c,o,vs=>by cases o<;>rfl
 |u::b,c,o+1,vs=>by simp only[GZ,wrC,ave b c o vs]
 |u::b,c,0,[]=>by simp only[GZ,wrC,adG]
 |u::b,c,0,v::vs=>by simp only[GZ,wrC,ave b c 0 vs]
def avf:∀(c:List Value) (o:Nat) (vs b:List Value),wrC c o vs=(b,(0,[]))->o+vs.length<=c.length/\∀i,b[i]?=if o<=i/\i<o+vs.length then vs[i-o]? else c[i]?
 |[],o,vs,b,h=>by
  cases o<;>(simp[wrC]at h)
  obtain⟨rfl,rfl⟩:=h;simp
 |u::c,o+1,vs,b,h=>by
  simp only[wrC]at h;injection h with d e
  obtain⟨g,f⟩:=avf c o vs (wrC c o vs).1 (by rw[<-e]);subst d;refine⟨by simp;omega,fun i=>?_⟩;cases i with
  |zero=>simp
  |succ i =>
   simp only[aAv,f i];have j:(o+1<=i+1/\i+1<o+1+vs.length)↔(o<=i/\i<o+vs.length):=by omega
   simp only[j,show i+1-(o+1)=i-o by omega]
 |u::c,0,[],b,h=>by simp[wrC]at h;subst h;refine⟨by simp,fun i=>?_⟩;rw[af (by simp)]
 |u::c,0,v::vs,b,h=>by
  simp only[wrC]at h;injection h with d e
  obtain⟨g,f⟩:=avf c 0 vs (wrC c 0 vs).1 (by rw[<-e]);subst d;refine⟨by simp at g ⊢;omega,fun i=>?_⟩;cases i with
  |zero=>simp
  |succ i =>
   simp only[aAv,f i];by_cases l:i<vs.length
   .rw[ag ⟨by omega,by omega⟩,ag ⟨by omega,by simp;omega⟩];simp
   .rw[af (by omega),af (by simp;omega)]
def aAR {b vs:List Value}{p:Nat}(h:p+vs.length<=b.length)(q:Nat):(b.take p++vs++b.drop (p+vs.length))[q]?=if p<=q/\q<p+vs.length then vs[q-p]? else b[q]?:=by
 simp only[hI,auI,bz,Pp,ai5];have e:min p b.length=p:=by omega
 rw[e];by_cases c:q<p
 .rw[ag c,ag c,af (by omega)]
 .rw[af c];by_cases d:q-p<vs.length
  .rw[ag d,ag ⟨by omega,by omega⟩]
  .rw[af d,af (by omega)]
   congr 1
   omega
section
variable {P:Program} {w0:fc} {w:World} {G:Gh} {st:St} {a:Act} {U:Type} {k:St->Option U} {r:U} {K:Act->World->Prop} {Q:Exit->Act->World->Prop} {o:Oper}
def agC {st dd:St}(h:gP st dd):∀(t:Ty) (x:t.D) (s:Nat×List AC),BE dd t x s=BE st t x s
 |.unit,x,s=>rfl|.pair t u,x,s=>by
  simp only[BE];rw[agC h t];cases BE st t x.1 s with
  |none=>rfl|some y=>dsimp only;rw[agC h u]
 |.int k,x,(0,[])=>rfl|.int k,x,(0,c::l)=>by simp only[BE];rw[uv h]
 |.int k,x,(o+1,l)=>rfl|.bool,x,(0,[])=>rfl|.bool,x,(0,c::l)=>by simp only[BE];rw[uv h]
 |.bool,x,(o+1,l)=>rfl|.str,x,(0,[])=>rfl|.str,x,(0,c::l)=>by simp only[BE];rw[uv h]
 |.str,x,(o+1,l)=>rfl|.sl _ _,x,(0,[])=>rfl|.sl _ _,x,(0,c::l)=>by simp only[BE];rw[uv h]
 |.sl _ _,x,(o+1,l)=>rfl
def J7 {t:Ty}{ok:Nat->Prop}{x:t.D}{c:List Value}(h:Rd w ok t x c)(b:t.n=1):∃u,c=[u]:=by
 have:=h.len;rw[b]at this;cases c with
 |nil=>cases this
 |cons u c =>
  cases c with
  |nil=>exact⟨u,rfl⟩|cons _ _=>simp at this
def Yx {ok:Nat->Prop}{bx:List (Nat×List AC)}{bl:List (Nat×Option fN)}{t:Ty}(f:t.n=1){c:AC}{l:List AC}{vs:List Value}{cs:List Value}{x:t.D}{y:t.D}{rest:List AC}
  (m:∀t b v xs,b∈c::l->bC G w bx bl b v->cy st t b=some xs->∀e,Rd w ok (.sl e t) xs [v]) (n:Rd w ok t x cs) (d:ch (bC G w bx bl) (c::l) vs) (hi:im st t [c]=some (y,rest)) :
  ∃b g,Rd w ok t y b/\ch (bC G w bx bl) l g/\wrC cs 0 vs=(b,(0,g)):=by
 cases vs with
 |nil=>exact d.elim
 |cons v vs =>
  obtain⟨u,rfl⟩:=J7 n f;obtain⟨q,s,h,i,_,_⟩:=Pv (l:=[c]) (vs:=[v]) (fun t b p xs j=>m t b p xs (by simp at j;simp[j])) ⟨d.1,trivial⟩ hi;obtain⟨z,rfl⟩:=J7 i f;have:z=v:=by simp at h;exact h.1.symm
  subst this;exact⟨[z],vs,i,d.2,by cases vs<;>rfl⟩
def avg {ok:Nat->Prop}{bx:List (Nat×List AC)}{bl:List (Nat×Option fN)}:∀{t:Ty} {x:t.D} {cs:List Value} {o:Nat} {l:List AC} {vs:List Value} {y:t.D} {j:Nat} {i:List AC},
  (∀t c v xs,c∈l->bC G w bx bl c v->cy st t c=some xs->∀e,Rd w ok (.sl e t) xs [v])->Rd w ok t x cs->ch (bC G w bx bl) l vs->BE st t x (o,l)=some (y,(j,i)) ->
  ∃m p,Rd w ok t y m/\ch (bC G w bx bl) i p/\wrC cs o vs=(m,(j,p))/\∀c∈i,c∈l
 |.unit,x,cs,o,l,vs,y,j,i,g,d,f,b=>by simp only[BE]at b;cases b;rw[show cs=[] from d];exact⟨[],vs,rfl,f,by cases o<;>rfl,fun _ h=>h⟩
 |.pair t u,x,cs,o,l,vs,y,j,i,g,d,f,b=>by
  obtain⟨Y,Z,rfl,F,H⟩:=d;simp only[BE]at b;split at b
  .rename_i qd I q;obtain⟨qe,qf⟩:=I;split at b
   .rename_i qg L s;obtain⟨qh,qi⟩:=L;cases b;obtain⟨C,qj,M,N,O,D⟩:=avg g F f q;obtain⟨E,R,S,T,W,X⟩:=avg (fun t c v xs B=>g t c v xs (D c B)) H N s;refine⟨C++E,R,⟨C,E,rfl,M,S⟩,T,?_,fun c B=>D c (X c B)⟩;rw[ave,O];dsimp only;rw[W]
   .cases b
  .cases b
 |.int k,x,cs,0,[],vs,y,j,i,g,d,f,b=>by
  simp only[BE]at b;cases b;cases vs with
  |nil=>exact⟨cs,[],d,trivial,adG cs,fun _ h=>h⟩
  |cons _ _=>exact f.elim
 |.bool,x,cs,0,[],vs,y,j,i,g,d,f,b=>by
  simp only[BE]at b;cases b;cases vs with
  |nil=>exact⟨cs,[],d,trivial,adG cs,fun _ h=>h⟩
  |cons _ _=>exact f.elim
 |.str,x,cs,0,[],vs,y,j,i,g,d,f,b=>by
  simp only[BE]at b;cases b;cases vs with
  |nil=>exact⟨cs,[],d,trivial,adG cs,fun _ h=>h⟩
  |cons _ _=>exact f.elim
 |.sl e t,x,cs,0,[],vs,y,j,i,g,d,f,b=>by
  simp only[BE]at b;cases b;cases vs with
  |nil=>exact⟨cs,[],d,trivial,adG cs,fun _ h=>h⟩
  |cons _ _=>exact f.elim
 |.int k,x,cs,0,c::l,vs,y,j,i,g,d,f,b=>by
  simp only[BE]at b;split at b
  .rename_i n rest z;cases b;obtain⟨m,p,q,s,A⟩:=Yx rfl g d f z;exact⟨m,p,q,s,A,fun _ h=>by simp[h]⟩
  .cases b
 |.bool,x,cs,0,c::l,vs,y,j,i,g,d,f,b=>by
  simp only[BE]at b;split at b
  .rename_i n rest z;cases b;obtain⟨m,p,q,s,A⟩:=Yx rfl g d f z;exact⟨m,p,q,s,A,fun _ h=>by simp[h]⟩
  .cases b
 |.str,x,cs,0,c::l,vs,y,j,i,g,d,f,b=>by
  simp only[BE]at b;split at b
  .rename_i n rest z;cases b;obtain⟨m,p,q,s,A⟩:=Yx rfl g d f z;exact⟨m,p,q,s,A,fun _ h=>by simp[h]⟩
  .cases b
 |.sl e t,x,cs,0,c::l,vs,y,j,i,g,d,f,b=>by
  simp only[BE]at b;split at b
  .rename_i n rest z;cases b;obtain⟨m,p,q,s,A⟩:=Yx rfl g d f z;exact⟨m,p,q,s,A,fun _ h=>by simp[h]⟩
  .cases b
 |.int k,x,cs,o+1,l,vs,y,j,i,g,d,f,b=>by simp only[BE]at b;cases b;obtain⟨u,rfl⟩:=J7 d rfl;exact⟨[u],vs,d,f,by cases o<;>rfl,fun _ h=>h⟩
 |.bool,x,cs,o+1,l,vs,y,j,i,g,d,f,b=>by simp only[BE]at b;cases b;obtain⟨u,rfl⟩:=J7 d rfl;exact⟨[u],vs,d,f,by cases o<;>rfl,fun _ h=>h⟩
 |.str,x,cs,o+1,l,vs,y,j,i,g,d,f,b=>by simp only[BE]at b;cases b;obtain⟨u,rfl⟩:=J7 d rfl;exact⟨[u],vs,d,f,by cases o<;>rfl,fun _ h=>h⟩
 |.sl e t,x,cs,o+1,l,vs,y,j,i,g,d,f,b=>by simp only[BE]at b;cases b;obtain⟨u,rfl⟩:=J7 d rfl;exact⟨[u],vs,d,f,by cases o<;>rfl,fun _ h=>h⟩
def Pw:∀{l:List AC},cj l=true->∀f e t xs,AC.ro f e t xs∈l->f=true
 |[],_,f,e,t,xs,hm=>by simp at hm
 |c::l,h,f,e,t,xs,hm=>by
  have b:cj l=true/\∀f e t xs,c=.ro f e t xs->f=true:=by
   cases c with
   |ro f e t xs =>
    simp only[cj,aG]at h;exact⟨h.2,fun g d i j e=>by cases e;exact h.1⟩
   |_=>exact⟨h,fun f e t xs d=>by cases d⟩
  rcases cT.1 hm with hm|hm
  .exact b.2 f e t xs hm.symm
  .exact Pw b.1 f e t xs hm
def anr:∀{l:List AC},o9 st l=true->∀id len,AC.own id len∈l->∃b,st.rI id=some b/\b.f=true
 |[],_,id,len,hm=>by simp at hm
 |c::l,h,id,len,hm=>by
  have f:o9 st l=true/\∀d m,c=.own d m->∃b,st.rI d=some b/\b.f=true:=by
   cases c with
   |own d m =>
    simp only[o9,aG]at h;refine⟨h.2,fun i j e=>?_⟩;cases e;cases g:st.rI d with
    |none=>rw[g]at h;simp at h|some b=>rw[g]at h;exact⟨b,rfl,h.1⟩
   |_=>exact⟨h,fun d m e=>by cases e⟩
  rcases cT.1 hm with hm|hm
  .exact f.2 id len hm.symm
  .exact anr f.1 id len hm
def adH {id:Nat}:∀(l:List AC) (st:St),aAD id l=true->look (st.freeze l).bl id=look st.bl id
 |[],st,_=>rfl|c::l,st,h=>by
  show look ((st.dD c).freeze l).bl id=_;have f:aAD id l=true/\∀d m,c=.own d m->d≠id:=by
   cases c with
   |own d m =>
    simp only[aAD,aG]at h;refine⟨h.2,fun i j e=>?_⟩;cases e;exact bu h.1
   |_=>exact⟨h,fun d m e=>by cases e⟩
  rw[adH l _ f.1];cases c with
  |own d m =>
   cases g:st.rI d with
   |none=>rw[RR g]
   |some b =>
    rw[nx g];have:=f.2 d m rfl;simp[au,this]
  |_=>rfl
def Px {d:Gh}{l:List AC}(p:Inv w0 d (st.freeze l) a w)(q:o9 st l=true){nf:Bool}(s:nf=true->cj l=true){bx:List (Nat×List AC)} :
  ∀t c v xs,c∈l->bC d w (st.freeze l).bx (st.freeze l).bl c v->cy (st.freeze l) t c=some xs->∀e,Rd w (RO d nf) (.sl e t) xs [v]:=by
 intro t c v xs h x y e;have m:∀f,(nf=true->f=true)->∀g,RO d f g->RO d nf g:=fun f i g z=>z.J3 i
 refine ks p x y (fun id len b j A=>?_) (fun f e u B j=>?_) e
 .subst j;obtain⟨n,C,i⟩:=anr q id len h;have:=J6 l st id len n h (eG C);rw[A]at this;cases this;exact⟨m n.f fun _=>i,fun D=>by cases D⟩
 .subst j;exact m f fun E=>Pw (s E) f e u B h
def akA (h:Inv w0 G st a w)(t:TypeId)(x y:Operand)(qG:o.op=.store t x y)(qH:(st.ec y).kn=true)(T:ai7 (st.ec y).cells=true)(W:P.cellsOf t=(st.ec y).cells.length)(hi:(P.info? t).isSome=true)
  {id:Nat} {i:Int} {d:Nat} (qI:st.ac x=.Mi id i d) {b:fN} (qK:st.rI id=some b) (E:b.w=true) (X:o9 st (st.ec y).cells=true) (Y:aAD id (st.ec y).cells=true)
  {z:b.t.D} (Z:BE st b.t (b.xs.getD i.toNat b.t.aC) (d,(st.ec y).cells)=some (z,(0,[])))
  (qd:({(st.freeze (st.ec y).cells) with bl:=(id,some {b with xs:=b.xs.set i.toNat z,f:=b.f&&cj (st.ec y).cells})::(st.freeze (st.ec y).cells).bl}:St).pk o.dst (.Vf []) k=some r) (qL:rL w0 k r K):o.wp P a w K Q:=by
 have qM:=eG qK;have qe:=(h.ec y).cells qH;have qf:=h.ac x;rw[qI]at qf;obtain⟨cs,qN⟩:∃cs,(st.ec y).cells=cs:=⟨_,rfl⟩;rw[qN]at qd Z X Y W T qe;obtain⟨s,I,qg,qh,qO⟩:=Inv.freeze cs h;have F:ch (bC s w (st.freeze cs).bx (st.freeze cs).bl) cs (a.eval y).cells.toList:=qe.imp fun _ _=>bC.mono qg qh
 have qP:=bC.mono qg qh (c:=.Mi id i d) qf;have L:look (st.freeze cs).bl id=some (some b):=(adH cs st Y).trans qM;obtain⟨_,_,xy,g,q,n,cap,C,xz,M⟩:=qP;have M:=M b L;have qi:=I.bl id b L;obtain⟨rows,bp,qj,qk⟩:=qi.wr E;obtain⟨hlen,qQ⟩:=bp;rcases qQ with ⟨D,_⟩|⟨xA,xB,cur,D,qR,ql,qm,qS,qn,qo⟩
 .rw[C]at D;cases D
 .rw[C]at D;injection D with N qT qW
  injection N with N
  injection N with qX qY _
  subst qX qY qT qW;have qZ:=qj g (by rw[C];rfl);have xa:i.toNat<b.xs.length:=by omega
  obtain⟨c,qp,xb⟩:=qk i.toNat _ (Cd xa b.t.aC);have xc:∀f:Bool,((b.f&&cj cs)=true->f=true)->∀g,RO s f g->RO s (b.f&&cj cs) g:=fun f xd g xe=>xe.J3 xd
  have qq:∀g,RO s b.f g->RO s (b.f&&cj cs) g:=xc b.f fun h=>by simp at h;exact h.1
  have xf:BE (st.freeze cs) b.t (b.xs.getD i.toNat b.t.aC) (d,cs)=some (z,(0,[])):=by rw[agC qO];exact Z
  obtain⟨qt,qu,qv,xg,qw,_⟩:=avg (ok:=RO s (b.f&&cj cs)) (Px (bx:=st.bx) I X fun h=>by simp at h;exact h.2) (iN qq qp) F xf;have A:qu=[]:=by
   cases qu with
   |nil=>rfl|cons _ _=>exact xg.elim
  subst A;obtain⟨xh,qx⟩:=avf c d _ qt qw;have xC:=qp.len;have qy:=amB F (adF T);have qz:=F.len;have xD:cur.size=cap*b.t.n:=qn;have xi:(i.toNat+1)*b.t.n<=b.xs.length*b.t.n:=GY _ (by omega);have xE:b.xs.length*b.t.n<=cap*b.t.n:=GY _ qm;rw[Mm,RH]at xi;obtain⟨l,A⟩:∃l,(a.eval y).cells.toList=l:=⟨_,rfl⟩;rw[A]at F qz qy qw qx xh;have qA:i.toNat*b.t.n+d+l.length<=cur.toList.length:=by simp;omega
  have O:=adE (P:=P) (t:=t) (o:=0+(i.toNat*b.t.n+d)) (v:=a.eval y) (by rw[W,A];exact qz) hi ql (by rw[A];simp at qA ⊢;omega) (by rw[A];exact qy);rw[A,wO]at O;have R:∀q:Nat,(cur.toList.take (i.toNat*b.t.n+d)++l++cur.toList.drop (i.toNat*b.t.n+d+l.length))[q]?=if i.toNat*b.t.n+d<=q/\q<i.toNat*b.t.n+d+l.length then l[q-(i.toNat*b.t.n+d)]? else cur.toList[q]?:=fun q=>aAR qA q
  obtain⟨m,qB⟩:∃m,cur.toList.take (i.toNat*b.t.n+d)++l++cur.toList.drop (i.toNat*b.t.n+d+l.length)=m:=⟨_,rfl⟩;rw[qB]at O R;have qC:m.length=cur.size:=by rw[<-qB];simp;omega
  have qD:=abJ (w:=w) (cs:=m.toArray) qZ (by simp);have xj:E5 s (w.setRow g m.toArray) id {b with xs:=b.xs.set i.toNat z,f:=b.f&&cj cs}:=by
   refine⟨fun _=>⟨m.take (b.xs.length*b.t.n),⟨?_,.inr ⟨g,cap,m.toArray,?_,qR,setRow_heap w g cur _ _ _ ql,by simpa using qm,qS,by simp[qC,qn],by simp⟩⟩,qj,?_⟩,fun xk=>?_,qi.pos⟩
   .simp[qC];omega
   .simp[C]
   .intro j S B;dsimp only at B;have xm:j<b.xs.length:=by
     rcases S2 j b.xs.length with h|h
     .exact h
     .simp[List.getElem?_eq_none (show(b.xs.set i.toNat z).length<=j by simpa using h)]at B
    have xn:(j+1)*b.t.n<=b.xs.length*b.t.n:=GY _ (by omega);rw[Mm,RH]at xn;by_cases H:j=i.toNat
    .subst H;have:S=z:=by rw[List.getElem?_set]at B;simp[xm]at B;exact B.symm
     rw[this];refine⟨qt,qD.rd qv,fun ii u p=>?_⟩;have xp:ii<b.t.n:=by have:=qv.len;have xq:=(wN.1 p).1;omega
     rw[qx]at p;show(m.take (b.xs.length*b.t.n))[i.toNat*b.t.n+ii]?=some u;rw[Pp,ag (by omega),R];by_cases qE:d<=ii/\ii<d+l.length
     .rw[ag qE]at p;rw[ag (by omega),show i.toNat*b.t.n+ii-(i.toNat*b.t.n+d)=ii-d by omega];exact p
     .rw[af qE]at p;rw[af (by omega)];have:=xb ii u p;rw[<-qo,Pp,ag (by omega)]at this;exact this
    .have xr:b.xs[j]?=some S:=by rw[List.getElem?_set]at B;simpa [fun e=>H (Eq.symm e),show ¬i.toNat=j from fun e=>H e.symm]using B
     obtain⟨xu,qF,xv⟩:=qk j S xr;refine⟨xu,iN qq (qD.rd qF),fun ii u p=>?_⟩;have xp:ii<b.t.n:=by have:=qF.len;have xq:=(wN.1 p).1;omega
     show(m.take (b.xs.length*b.t.n))[j*b.t.n+ii]?=some u;have xw:¬(i.toNat*b.t.n+d<=j*b.t.n+ii/\j*b.t.n+ii<i.toNat*b.t.n+d+l.length):=by
      rcases Nat.lt_or_gt_of_ne H with hlt|xF
      .have:(j+1)*b.t.n<=i.toNat*b.t.n:=GY _ (by omega);rw[Mm,RH]at this;omega
      .have:(i.toNat+1)*b.t.n<=j*b.t.n:=GY _ (by omega);rw[Mm,RH]at this;omega
     rw[Pp,ag (by omega),R,af xw];have:=xv ii u p;rw[<-qo,Pp,ag (by omega)]at this;exact this
   .rw[show b.w=false from xk]at E;cases E
  have hinv:=I.aIo id b L E g (by rw[C];rfl) m.toArray {b with xs:=b.xs.set i.toNat z,f:=b.f&&cj cs} rfl xj;refine aGa (w':=w.setRow g m.toArray) ?_ (Di hinv (v:=.Vf []) (u:=undef) ⟨#[],rfl,trivial⟩ qd qL);unfold execOp;rw[qG];dsimp only;rw[M];simp only[Instr.storeAt,Instr.sureAddr,Sem.run_bind,Sem.run_pure,Result.andThen_ok,wO,O]
end
end Go.Am
