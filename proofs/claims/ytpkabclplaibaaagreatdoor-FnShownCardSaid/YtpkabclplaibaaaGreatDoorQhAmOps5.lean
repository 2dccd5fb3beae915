/- No condition. -/
import Derived.Test.YtpkabclplaibaaaGreatDoorQhAmOps4
set_option linter.all false
namespace Go.Am
open Go.RowKit
variable [ds]
def Wv:List Value->Nat->List Value->List Value×(Nat×List Value)
 |[],o,b=>([],(o,b))|u::c,o+1,b=>let q:=Wv c o b;(u::q.1,q.2)
 |u::c,0,[]=>(u::c,(0,[]))|u::c,0,v::b=>let q:=Wv c 0 b;(v::q.1,q.2)
def PA:∀(c:List Value),Wv c 0 []=(c,(0,[]))
 |[]=>rfl|_::_=>rfl
def ack:∀(b c:List Value) (o:Nat) (vs:List Value),Wv (b++c) o vs=((Wv b o vs).1++(Wv c (Wv b o vs).2.1 (Wv b o vs).2.2).1,(Wv c (Wv b o vs).2.1 (Wv b o vs).2.2).2)
 |[],c,o,vs=>by cases o<;>rfl
 |u::b,c,o+1,vs=>by simp only[pE,Wv,ack b c o vs]
 |u::b,c,0,[]=>by simp only[pE,Wv,PA]
 |u::b,c,0,v::vs=>by simp only[pE,Wv,ack b c 0 vs]
def acm:∀(c:List Value) (o:Nat) (vs b:List Value),Wv c o vs=(b,(0,[]))->o+vs.length<=c.length/\∀i,b[i]?=if o<=i/\i<o+vs.length then vs[i-o]? else c[i]?
 |[],o,vs,b,h=>by
  cases o<;>(simp[Wv]at h)
  obtain⟨rfl,rfl⟩:=h;simp
 |u::c,o+1,vs,b,h=>by
  simp only[Wv]at h;injection h with d e
  obtain⟨g,f⟩:=acm c o vs (Wv c o vs).1 (by rw[<-e]);subst d;refine⟨by simp;omega,fun i=>?_⟩;cases i with
  |zero=>simp
  |succ i =>
   simp only[List.getElem?_cons_succ,f i];have j:(o+1<=i+1/\i+1<o+1+vs.length)↔(o<=i/\i<o+vs.length):=by omega
   simp only[j,show i+1-(o+1)=i-o by omega]
 |u::c,0,[],b,h=>by simp[Wv]at h;subst h;refine⟨by simp,fun i=>?_⟩;rw[ag (by simp)]
 |u::c,0,v::vs,b,h=>by
  simp only[Wv]at h;injection h with d e
  obtain⟨g,f⟩:=acm c 0 vs (Wv c 0 vs).1 (by rw[<-e]);subst d;refine⟨by simp at g ⊢;omega,fun i=>?_⟩;cases i with
  |zero=>simp
  |succ i =>
   simp only[List.getElem?_cons_succ,f i];by_cases l:i<vs.length
   .rw[aj ⟨by omega,by omega⟩,aj ⟨by omega,by simp;omega⟩];simp
   .rw[ag (by omega),ag (by simp;omega)]
def ag2 {b vs:List Value}{p:Nat}(h:p+vs.length<=b.length)(q:Nat):(b.take p++vs++b.drop (p+vs.length))[q]?=if p<=q/\q<p+vs.length then vs[q-p]? else b[q]?:=by
 simp only[ha,abS,bQ,C1,Tb];have e:min p b.length=p:=by omega
 rw[e];by_cases c:q<p
 .rw[aj c,aj c,ag (by omega)]
 .rw[ag c];by_cases d:q-p<vs.length
  .rw[aj d,aj ⟨by omega,by omega⟩]
  .rw[ag d,ag (by omega)]
   congr 1
   omega
section
variable {P:Program} {w0:di} {w:World} {G:Gh} {st:St} {a:Act} {U:Type} {k:St->Option U} {r:U} {K:Act->World->Prop} {Q:Exit->Act->World->Prop} {o:Oper}
def RB {st bV:St}(h:eC st bV):∀(t:Ty) (x:t.D) (s:Nat×List AC),tp bV t x s=tp st t x s
 |.unit,x,s=>rfl|.pair t u,x,s=>by
  simp only[tp];rw[RB h t];cases tp st t x.1 s with
  |none=>rfl|some y=>dsimp only;rw[RB h u]
 |.int k,x,(0,[])=>rfl|.int k,x,(0,c::l)=>by simp only[tp];rw[nY h]
 |.int k,x,(o+1,l)=>rfl|.bool,x,(0,[])=>rfl|.bool,x,(0,c::l)=>by simp only[tp];rw[nY h]
 |.bool,x,(o+1,l)=>rfl|.str,x,(0,[])=>rfl|.str,x,(0,c::l)=>by simp only[tp];rw[nY h]
 |.str,x,(o+1,l)=>rfl|.sl _ _,x,(0,[])=>rfl|.sl _ _,x,(0,c::l)=>by simp only[tp];rw[nY h]
 |.sl _ _,x,(o+1,l)=>rfl
def BH {t:Ty}{ok:Nat->Prop}{x:t.D}{c:List Value}(h:Rd w ok t x c)(b:t.n=1):∃u,c=[u]:=by
 have:=h.len;rw[b]at this;cases c with
 |nil=>cases this
 |cons u c =>
  cases c with
  |nil=>exact⟨u,rfl⟩|cons _ _=>simp at this
def LC {ok:Nat->Prop}{bx:List (Nat×List AC)}{bl:List (Nat×Option dD)}{t:Ty}(f:t.n=1){c:AC}{l:List AC}{vs:List Value}{cs:List Value}{x:t.D}{y:t.D}{rest:List AC}
  (m:∀e t b v xs,b∈c::l->a7 G w bx bl b v->bU st e t b=some xs->Rd w ok (.sl e t) xs [v]) (n:Rd w ok t x cs) (d:bD (a7 G w bx bl) (c::l) vs) (p:im st t [c]=some (y,rest)) :
  ∃b g,Rd w ok t y b/\bD (a7 G w bx bl) l g/\Wv cs 0 vs=(b,(0,g)):=by
 cases vs with
 |nil=>exact d.elim
 |cons v vs =>
  obtain⟨u,rfl⟩:=BH n f;obtain⟨s,A,h,i,_,_⟩:=Fe (l:=[c]) (vs:=[v]) (fun e t b q xs j=>m e t b q xs (by simp at j;simp[j])) ⟨d.1,trivial⟩ p;obtain⟨z,rfl⟩:=BH i f;have:z=v:=by simp at h;exact h.1.symm
  subst this;exact⟨[z],vs,i,d.2,by cases vs<;>rfl⟩
def acn {ok:Nat->Prop}{bx:List (Nat×List AC)}{bl:List (Nat×Option dD)}:∀{t:Ty} {x:t.D} {cs:List Value} {o:Nat} {l:List AC} {vs:List Value} {y:t.D} {j:Nat} {i:List AC},
  (∀e t c v xs,c∈l->a7 G w bx bl c v->bU st e t c=some xs->Rd w ok (.sl e t) xs [v])->Rd w ok t x cs->bD (a7 G w bx bl) l vs->tp st t x (o,l)=some (y,(j,i)) ->
  ∃m p,Rd w ok t y m/\bD (a7 G w bx bl) i p/\Wv cs o vs=(m,(j,p))/\∀c∈i,c∈l
 |.unit,x,cs,o,l,vs,y,j,i,g,d,f,b=>by simp only[tp]at b;cases b;rw[show cs=[] from d];exact⟨[],vs,rfl,f,by cases o<;>rfl,fun _ h=>h⟩
 |.pair t u,x,cs,o,l,vs,y,j,i,g,d,f,b=>by
  obtain⟨Y,Z,rfl,F,H⟩:=d;simp only[tp]at b;split at b
  .rename_i qa I q;obtain⟨qb,qd⟩:=I;split at b
   .rename_i qe L s;obtain⟨qf,qg⟩:=L;cases b;obtain⟨C,qh,M,N,O,D⟩:=acn g F f q;obtain⟨E,R,S,T,W,X⟩:=acn (fun e t c v xs B=>g e t c v xs (D c B)) H N s;refine⟨C++E,R,⟨C,E,rfl,M,S⟩,T,?_,fun c B=>D c (X c B)⟩;rw[ack,O];dsimp only;rw[W]
   .cases b
  .cases b
 |.int k,x,cs,0,[],vs,y,j,i,g,d,f,b=>by
  simp only[tp]at b;cases b;cases vs with
  |nil=>exact⟨cs,[],d,trivial,PA cs,fun _ h=>h⟩
  |cons _ _=>exact f.elim
 |.bool,x,cs,0,[],vs,y,j,i,g,d,f,b=>by
  simp only[tp]at b;cases b;cases vs with
  |nil=>exact⟨cs,[],d,trivial,PA cs,fun _ h=>h⟩
  |cons _ _=>exact f.elim
 |.str,x,cs,0,[],vs,y,j,i,g,d,f,b=>by
  simp only[tp]at b;cases b;cases vs with
  |nil=>exact⟨cs,[],d,trivial,PA cs,fun _ h=>h⟩
  |cons _ _=>exact f.elim
 |.sl e t,x,cs,0,[],vs,y,j,i,g,d,f,b=>by
  simp only[tp]at b;cases b;cases vs with
  |nil=>exact⟨cs,[],d,trivial,PA cs,fun _ h=>h⟩
  |cons _ _=>exact f.elim
 |.int k,x,cs,0,c::l,vs,y,j,i,g,d,f,b=>by
  simp only[tp]at b;split at b
  .rename_i n rest z;cases b;obtain⟨m,p,q,s,A⟩:=LC rfl g d f z;exact⟨m,p,q,s,A,fun _ h=>by simp[h]⟩
  .cases b
 |.bool,x,cs,0,c::l,vs,y,j,i,g,d,f,b=>by
  simp only[tp]at b;split at b
  .rename_i n rest z;cases b;obtain⟨m,p,q,s,A⟩:=LC rfl g d f z;exact⟨m,p,q,s,A,fun _ h=>by simp[h]⟩
  .cases b
 |.str,x,cs,0,c::l,vs,y,j,i,g,d,f,b=>by
  simp only[tp]at b;split at b
  .rename_i n rest z;cases b;obtain⟨m,p,q,s,A⟩:=LC rfl g d f z;exact⟨m,p,q,s,A,fun _ h=>by simp[h]⟩
  .cases b
 |.sl e t,x,cs,0,c::l,vs,y,j,i,g,d,f,b=>by
  simp only[tp]at b;split at b
  .rename_i n rest z;cases b;obtain⟨m,p,q,s,A⟩:=LC rfl g d f z;exact⟨m,p,q,s,A,fun _ h=>by simp[h]⟩
  .cases b
 |.int k,x,cs,o+1,l,vs,y,j,i,g,d,f,b=>by simp only[tp]at b;cases b;obtain⟨u,rfl⟩:=BH d rfl;exact⟨[u],vs,d,f,by cases o<;>rfl,fun _ h=>h⟩
 |.bool,x,cs,o+1,l,vs,y,j,i,g,d,f,b=>by simp only[tp]at b;cases b;obtain⟨u,rfl⟩:=BH d rfl;exact⟨[u],vs,d,f,by cases o<;>rfl,fun _ h=>h⟩
 |.str,x,cs,o+1,l,vs,y,j,i,g,d,f,b=>by simp only[tp]at b;cases b;obtain⟨u,rfl⟩:=BH d rfl;exact⟨[u],vs,d,f,by cases o<;>rfl,fun _ h=>h⟩
 |.sl e t,x,cs,o+1,l,vs,y,j,i,g,d,f,b=>by simp only[tp]at b;cases b;obtain⟨u,rfl⟩:=BH d rfl;exact⟨[u],vs,d,f,by cases o<;>rfl,fun _ h=>h⟩
def Ff:∀{l:List AC},bI l=true->∀f e t xs,AC.ro f e t xs∈l->f=true
 |[],_,f,e,t,xs,hm=>by simp at hm
 |c::l,h,f,e,t,xs,hm=>by
  have b:bI l=true/\∀f e t xs,c=.ro f e t xs->f=true:=by
   cases c with
   |ro f e t xs =>
    simp only[bI,az]at h;exact⟨h.2,fun g d i j e=>by cases e;exact h.1⟩
   |_=>exact⟨h,fun f e t xs d=>by cases d⟩
  rcases c7.1 hm with hm|hm
  .exact b.2 f e t xs hm.symm
  .exact Ff b.1 f e t xs hm
def Ww:∀{l:List AC},kB st l=true->∀id len,AC.own id len∈l->∃b,st.kA id=some b/\b.f=true
 |[],_,id,len,hm=>by simp at hm
 |c::l,h,id,len,hm=>by
  have f:kB st l=true/\∀d m,c=.own d m->∃b,st.kA d=some b/\b.f=true:=by
   cases c with
   |own d m =>
    simp only[kB,az]at h;refine⟨h.2,fun i j e=>?_⟩;cases e;cases g:st.kA d with
    |none=>rw[g]at h;simp at h|some b=>rw[g]at h;exact⟨b,rfl,h.1⟩
   |_=>exact⟨h,fun d m e=>by cases e⟩
  rcases c7.1 hm with hm|hm
  .exact f.2 id len hm.symm
  .exact Ww f.1 id len hm
def PB {id:Nat}:∀(l:List AC) (st:St),agO id l=true->look (st.freeze l).bl id=look st.bl id
 |[],st,_=>rfl|c::l,st,h=>by
  show look ((st.cU c).freeze l).bl id=_;have f:agO id l=true/\∀d m,c=.own d m->d≠id:=by
   cases c with
   |own d m =>
    simp only[agO,az]at h;refine⟨h.2,fun i j e=>?_⟩;cases e;exact ba h.1
   |_=>exact⟨h,fun d m e=>by cases e⟩
  rw[PB l _ f.1];cases c with
  |own d m =>
   cases g:st.kA d with
   |none=>rw[GO g]
   |some b =>
    rw[jt g];have:=f.2 d m rfl;simp[ai,this]
  |_=>rfl
def Fg {d:Gh}{l:List AC}(p:Inv w0 d (st.freeze l) a w)(q:kB st l=true){nf:Bool}(s:nf=true->bI l=true){bx:List (Nat×List AC)} :
  ∀e t c v xs,c∈l->a7 d w (st.freeze l).bx (st.freeze l).bl c v->bU (st.freeze l) e t c=some xs->Rd w (RO d nf) (.sl e t) xs [v]:=by
 intro e t c v xs h x y;have m:∀f,(nf=true->f=true)->∀g,RO d f g->RO d nf g:=fun f i g z=>z.BD i
 refine gi p x y (fun id len b j A=>?_) (fun f e u B j=>?_)
 .subst j;obtain⟨n,C,i⟩:=Ww q id len h;have:=BG l st id len n h (cV C);rw[A]at this;cases this;exact⟨m n.f fun _=>i,fun D=>by cases D⟩
 .subst j;exact m f fun E=>Ff (s E) f e u B h
def Ue (h:Inv w0 G st a w)(t:TypeId)(x y:Operand)(qE:o.op=.store t x y)(qF:(st.c6 y).kn=true)(T:Tk (st.c6 y).cells=true)(W:P.cellsOf t=(st.c6 y).cells.length)(qG:(P.info? t).isSome=true)
  {id:Nat} {i:Int} {d:Nat} (qH:st.ac x=.qV id i d) {b:dD} (qI:st.kA id=some b) (E:b.w=true) (X:kB st (st.c6 y).cells=true) (Y:agO id (st.c6 y).cells=true)
  {z:b.t.D} (Z:tp st b.t (b.xs.getD i.toNat b.t.aI) (d,(st.c6 y).cells)=some (z,(0,[])))
  (qa:({(st.freeze (st.c6 y).cells) with bl:=(id,some {b with xs:=b.xs.set i.toNat z,f:=b.f&&bI (st.c6 y).cells})::(st.freeze (st.c6 y).cells).bl}:St).pk o.dst (.GF []) k=some r) (qK:l4 w0 k r K):o.wp P a w K Q:=by
 have qL:=cV qI;have qb:=(h.c6 y).cells qF;have qd:=h.ac x;rw[qH]at qd;obtain⟨cs,qM⟩:∃cs,(st.c6 y).cells=cs:=⟨_,rfl⟩;rw[qM]at qa Z X Y W T qb;obtain⟨s,I,qe,qf,qN⟩:=Inv.freeze cs h;have F:bD (a7 s w (st.freeze cs).bx (st.freeze cs).bl) cs (a.eval y).cells.toList:=qb.imp fun _ _=>a7.mono qe qf
 have qO:=a7.mono qe qf (c:=.qV id i d) qd;have L:look (st.freeze cs).bl id=some (some b):=(PB cs st Y).trans qL;obtain⟨_,_,xv,g,q,n,cap,C,xw,M⟩:=qO;have M:=M b L;have qg:=I.bl id b L;obtain⟨rows,aS,qh,qi⟩:=qg.wr E;obtain⟨hlen,qP⟩:=aS;rcases qP with ⟨D,_⟩|⟨xy,xz,cur,D,qQ,qj,qk,qR,ql,qm⟩
 .rw[C]at D;cases D
 .rw[C]at D;injection D with N qS qT
  injection N with N
  injection N with qW qX _
  subst qW qX qS qT;have qY:=qh g (by rw[C];rfl);have qZ:i.toNat<b.xs.length:=by omega
  obtain⟨c,qn,xa⟩:=qi i.toNat _ (tW qZ b.t.aI);have xb:∀f:Bool,((b.f&&bI cs)=true->f=true)->∀g,RO s f g->RO s (b.f&&bI cs) g:=fun f xc g xd=>xd.BD xc
  have qo:∀g,RO s b.f g->RO s (b.f&&bI cs) g:=xb b.f fun h=>by simp at h;exact h.1
  have xe:tp (st.freeze cs) b.t (b.xs.getD i.toNat b.t.aI) (d,cs)=some (z,(0,[])):=by rw[RB qN];exact Z
  obtain⟨qp,qq,qt,xf,qu,_⟩:=acn (ok:=RO s (b.f&&bI cs)) (Fg (bx:=st.bx) I X fun h=>by simp at h;exact h.2) (eL qo qn) F xe;have A:qq=[]:=by
   cases qq with
   |nil=>rfl|cons _ _=>exact xf.elim
  subst A;obtain⟨xg,qv⟩:=acm c d _ qp qu;have xA:=qn.len;have qw:=VE F (Pz T);have qx:=F.len;have xB:cur.size=cap*b.t.n:=ql;have xh:(i.toNat+1)*b.t.n<=b.xs.length*b.t.n:=tt _ (by omega);have xC:b.xs.length*b.t.n<=cap*b.t.n:=tt _ qk;rw[By,MA]at xh;obtain⟨l,A⟩:∃l,(a.eval y).cells.toList=l:=⟨_,rfl⟩;rw[A]at F qx qw qu qv xg;have qy:i.toNat*b.t.n+d+l.length<=cur.toList.length:=by simp;omega
  have O:=Py (P:=P) (t:=t) (o:=0+(i.toNat*b.t.n+d)) (v:=a.eval y) (by rw[W,A];exact qx) qG qj (by rw[A];simp at qy ⊢;omega) (by rw[A];exact qw);rw[A,pF]at O;have R:∀q:Nat,(cur.toList.take (i.toNat*b.t.n+d)++l++cur.toList.drop (i.toNat*b.t.n+d+l.length))[q]?=if i.toNat*b.t.n+d<=q/\q<i.toNat*b.t.n+d+l.length then l[q-(i.toNat*b.t.n+d)]? else cur.toList[q]?:=fun q=>ag2 qy q
  obtain⟨m,qz⟩:∃m,cur.toList.take (i.toNat*b.t.n+d)++l++cur.toList.drop (i.toNat*b.t.n+d+l.length)=m:=⟨_,rfl⟩;rw[qz]at O R;have qA:m.length=cur.size:=by rw[<-qz];simp;omega
  have qB:=NZ (w:=w) (cs:=m.toArray) qY (by simp);have xi:wh s (w.setRow g m.toArray) id {b with xs:=b.xs.set i.toNat z,f:=b.f&&bI cs}:=by
   refine⟨fun _=>⟨m.take (b.xs.length*b.t.n),⟨?_,.inr ⟨g,cap,m.toArray,?_,qQ,setRow_heap w g cur _ _ _ qj,by simpa using qk,qR,by simp[qA,ql],by simp⟩⟩,qh,?_⟩,fun xj=>?_,qg.pos⟩
   .simp[qA];omega
   .simp[C]
   .intro j S B;dsimp only at B;have xk:j<b.xs.length:=by
     rcases Tj j b.xs.length with h|h
     .exact h
     .simp[List.getElem?_eq_none (show(b.xs.set i.toNat z).length<=j by simpa using h)]at B
    have xm:(j+1)*b.t.n<=b.xs.length*b.t.n:=tt _ (by omega);rw[By,MA]at xm;by_cases H:j=i.toNat
    .subst H;have:S=z:=by rw[List.getElem?_set]at B;simp[xk]at B;exact B.symm
     rw[this];refine⟨qp,qB.rd qt,fun ii u p=>?_⟩;have xn:ii<b.t.n:=by have:=qt.len;have xo:=(lu.1 p).1;omega
     rw[qv]at p;show(m.take (b.xs.length*b.t.n))[i.toNat*b.t.n+ii]?=some u;rw[C1,aj (by omega),R];by_cases qC:d<=ii/\ii<d+l.length
     .rw[aj qC]at p;rw[aj (by omega),show i.toNat*b.t.n+ii-(i.toNat*b.t.n+d)=ii-d by omega];exact p
     .rw[ag qC]at p;rw[ag (by omega)];have:=xa ii u p;rw[<-qm,C1,aj (by omega)]at this;exact this
    .have xp:b.xs[j]?=some S:=by rw[List.getElem?_set]at B;simpa [fun e=>H (Eq.symm e),show ¬i.toNat=j from fun e=>H e.symm]using B
     obtain⟨xq,qD,xr⟩:=qi j S xp;refine⟨xq,eL qo (qB.rd qD),fun ii u p=>?_⟩;have xn:ii<b.t.n:=by have:=qD.len;have xo:=(lu.1 p).1;omega
     show(m.take (b.xs.length*b.t.n))[j*b.t.n+ii]?=some u;have xu:¬(i.toNat*b.t.n+d<=j*b.t.n+ii/\j*b.t.n+ii<i.toNat*b.t.n+d+l.length):=by
      rcases Nat.lt_or_gt_of_ne H with hlt|xD
      .have:(j+1)*b.t.n<=i.toNat*b.t.n:=tt _ (by omega);rw[By,MA]at this;omega
      .have:(i.toNat+1)*b.t.n<=j*b.t.n:=tt _ (by omega);rw[By,MA]at this;omega
     rw[C1,aj (by omega),R,ag xu];have:=xr ii u p;rw[<-qm,C1,aj (by omega)]at this;exact this
   .rw[show b.w=false from xj]at E;cases E
  have hinv:=I.anS id b L E g (by rw[C];rfl) m.toArray {b with xs:=b.xs.set i.toNat z,f:=b.f&&bI cs} rfl xi;refine alx (w':=w.setRow g m.toArray) ?_ (q4 hinv (v:=.GF []) (u:=undef) ⟨#[],rfl,trivial⟩ qa qK);unfold execOp;rw[qE];dsimp only;rw[M];simp only[Instr.storeAt,Instr.sureAddr,Sem.run_bind,Sem.run_pure,Result.andThen_ok,pF,O]
end
end Go.Am
