/- No condition. -/
import Derived.Test.YtaheoongenkdbaaGreatDoorQsAmOps4
set_option linter.all false
namespace Go.Am
open Go.RowKit
def wrC:List Value->Nat->List Value->List Value×(Nat×List Value)
 |[],o,b=>([],(o,b))|u::c,o+1,b=>let q:=wrC c o b;(u::q.1,q.2)
 |u::c,0,[]=>(u::c,(0,[]))|u::c,0,v::b=>let q:=wrC c 0 b;(v::q.1,q.2)
def aay:∀(c:List Value),wrC c 0 []=(c,(0,[]))
 |[]=>rfl|_::_=>rfl
def aq0:∀(b c:List Value) (o:Nat) (vs:List Value),wrC (b++c) o vs=((wrC b o vs).1++(wrC c (wrC b o vs).2.1 (wrC b o vs).2.2).1,(wrC c (wrC b o vs).2.1 (wrC b o vs).2.2).2)
 |[],c,o,vs=>by cases o<;>rfl
 |u::b,c,o+1,vs=>by simp only[Fb,wrC,aq0 b c o vs]
 |u::b,c,0,[]=>by simp only[Fb,wrC,aay]
 |u::b,c,0,v::vs=>by simp only[Fb,wrC,aq0 b c 0 vs]
def aq1:∀(c:List Value) (o:Nat) (vs b:List Value),wrC c o vs=(b,(0,[]))->o+vs.length<=c.length/\∀i,b[i]?=if o<=i/\i<o+vs.length then vs[i-o]? else c[i]?
 |[],o,vs,b,h=>by
  cases o<;>(simp[wrC]at h)
  obtain⟨rfl,rfl⟩:=h;simp
 |u::c,o+1,vs,b,h=>by
  simp only[wrC]at h;injection h with d e
  obtain⟨g,f⟩:=aq1 c o vs (wrC c o vs).1 (by rw[<-e]);subst d;refine⟨by simp;omega,fun i=>?_⟩;cases i with
  |zero=>simp
  |succ i =>
   simp only[List.getElem?_cons_succ,f i];have j:(o+1<=i+1/\i+1<o+1+vs.length)↔(o<=i/\i<o+vs.length):=by omega
   simp only[j,show i+1-(o+1)=i-o by omega]
 |u::c,0,[],b,h=>by simp[wrC]at h;subst h;refine⟨by simp,fun i=>?_⟩;rw[af (by simp)]
 |u::c,0,v::vs,b,h=>by
  simp only[wrC]at h;injection h with d e
  obtain⟨g,f⟩:=aq1 c 0 vs (wrC c 0 vs).1 (by rw[<-e]);subst d;refine⟨by simp at g ⊢;omega,fun i=>?_⟩;cases i with
  |zero=>simp
  |succ i =>
   simp only[List.getElem?_cons_succ,f i];by_cases l:i<vs.length
   .rw[ah ⟨by omega,by omega⟩,ah ⟨by omega,by simp;omega⟩];simp
   .rw[af (by omega),af (by simp;omega)]
def av8 {b vs:List Value}{p:Nat}(h:p+vs.length<=b.length)(q:Nat):(b.take p++vs++b.drop (p+vs.length))[q]?=if p<=q/\q<p+vs.length then vs[q-p]? else b[q]?:=by
 simp only[ik,aqC,bz,Nc,afC];have e:min p b.length=p:=by omega
 rw[e];by_cases c:q<p
 .rw[ah c,ah c,af (by omega)]
 .rw[af c];by_cases d:q-p<vs.length
  .rw[ah d,ah ⟨by omega,by omega⟩]
  .rw[af d,af (by omega)]
   congr 1
   omega
section
variable {P:Program} {w0:eA} {w:World} {G:Gh} {st:St} {a:Act} {U:Type} {k:St->Option U} {r:U} {K:Act->World->Prop} {Q:Exit->Act->World->Prop} {o:Oper}
def adm {st cA:St}(h:fW st cA):∀(t:Ty) (x:t.D) (s:Nat×List AC),Al cA t x s=Al st t x s
 |.unit,x,s=>rfl|.pair t u,x,s=>by
  simp only[Al];rw[adm h t];cases Al st t x.1 s with
  |none=>rfl|some y=>dsimp only;rw[adm h u]
 |.int k,x,(0,[])=>rfl|.int k,x,(0,c::l)=>by simp only[Al];rw[sL h]
 |.int k,x,(o+1,l)=>rfl|.bool,x,(0,[])=>rfl|.bool,x,(0,c::l)=>by simp only[Al];rw[sL h]
 |.bool,x,(o+1,l)=>rfl|.str,x,(0,[])=>rfl|.str,x,(0,c::l)=>by simp only[Al];rw[sL h]
 |.str,x,(o+1,l)=>rfl|.sl _ _,x,(0,[])=>rfl|.sl _ _,x,(0,c::l)=>by simp only[Al];rw[sL h]
 |.sl _ _,x,(o+1,l)=>rfl
def H8 {t:Ty}{ok:Nat->Prop}{x:t.D}{c:List Value}(h:Rd w ok t x c)(b:t.n=1):∃u,c=[u]:=by
 have:=h.len;rw[b]at this;cases c with
 |nil=>cases this
 |cons u c =>
  cases c with
  |nil=>exact⟨u,rfl⟩|cons _ _=>simp at this
def VF {ok:Nat->Prop}{bx:List (Nat×List AC)}{bl:List (Nat×Option fa)}{t:Ty}(f:t.n=1){c:AC}{l:List AC}{vs:List Value}{cs:List Value}{x:t.D}{y:t.D}{rest:List AC}
  (m:∀t b v xs,b∈c::l->bm G w bx bl b v->cz st t b=some xs->∀e,Rd w ok (.sl e t) xs [v]) (n:Rd w ok t x cs) (d:b6 (bm G w bx bl) (c::l) vs) (hi:im st t [c]=some (y,rest)) :
  ∃b g,Rd w ok t y b/\b6 (bm G w bx bl) l g/\wrC cs 0 vs=(b,(0,g)):=by
 cases vs with
 |nil=>exact d.elim
 |cons v vs =>
  obtain⟨u,rfl⟩:=H8 n f;obtain⟨q,s,h,i,_,_⟩:=Nj (l:=[c]) (vs:=[v]) (fun t b p xs j=>m t b p xs (by simp at j;simp[j])) ⟨d.1,trivial⟩ hi;obtain⟨z,rfl⟩:=H8 i f;have:z=v:=by simp at h;exact h.1.symm
  subst this;exact⟨[z],vs,i,d.2,by cases vs<;>rfl⟩
def aq2 {ok:Nat->Prop}{bx:List (Nat×List AC)}{bl:List (Nat×Option fa)}:∀{t:Ty} {x:t.D} {cs:List Value} {o:Nat} {l:List AC} {vs:List Value} {y:t.D} {j:Nat} {i:List AC},
  (∀t c v xs,c∈l->bm G w bx bl c v->cz st t c=some xs->∀e,Rd w ok (.sl e t) xs [v])->Rd w ok t x cs->b6 (bm G w bx bl) l vs->Al st t x (o,l)=some (y,(j,i)) ->
  ∃m p,Rd w ok t y m/\b6 (bm G w bx bl) i p/\wrC cs o vs=(m,(j,p))/\∀c∈i,c∈l
 |.unit,x,cs,o,l,vs,y,j,i,g,d,f,b=>by simp only[Al]at b;cases b;rw[show cs=[] from d];exact⟨[],vs,rfl,f,by cases o<;>rfl,fun _ h=>h⟩
 |.pair t u,x,cs,o,l,vs,y,j,i,g,d,f,b=>by
  obtain⟨Y,Z,rfl,F,H⟩:=d;simp only[Al]at b;split at b
  .rename_i qa I q;obtain⟨qb,qd⟩:=I;split at b
   .rename_i qe L s;obtain⟨qf,qg⟩:=L;cases b;obtain⟨C,qh,M,N,O,D⟩:=aq2 g F f q;obtain⟨E,R,S,T,W,X⟩:=aq2 (fun t c v xs B=>g t c v xs (D c B)) H N s;refine⟨C++E,R,⟨C,E,rfl,M,S⟩,T,?_,fun c B=>D c (X c B)⟩;rw[aq0,O];dsimp only;rw[W]
   .cases b
  .cases b
 |.int k,x,cs,0,[],vs,y,j,i,g,d,f,b=>by
  simp only[Al]at b;cases b;cases vs with
  |nil=>exact⟨cs,[],d,trivial,aay cs,fun _ h=>h⟩
  |cons _ _=>exact f.elim
 |.bool,x,cs,0,[],vs,y,j,i,g,d,f,b=>by
  simp only[Al]at b;cases b;cases vs with
  |nil=>exact⟨cs,[],d,trivial,aay cs,fun _ h=>h⟩
  |cons _ _=>exact f.elim
 |.str,x,cs,0,[],vs,y,j,i,g,d,f,b=>by
  simp only[Al]at b;cases b;cases vs with
  |nil=>exact⟨cs,[],d,trivial,aay cs,fun _ h=>h⟩
  |cons _ _=>exact f.elim
 |.sl e t,x,cs,0,[],vs,y,j,i,g,d,f,b=>by
  simp only[Al]at b;cases b;cases vs with
  |nil=>exact⟨cs,[],d,trivial,aay cs,fun _ h=>h⟩
  |cons _ _=>exact f.elim
 |.int k,x,cs,0,c::l,vs,y,j,i,g,d,f,b=>by
  simp only[Al]at b;split at b
  .rename_i n rest z;cases b;obtain⟨m,p,q,s,A⟩:=VF rfl g d f z;exact⟨m,p,q,s,A,fun _ h=>by simp[h]⟩
  .cases b
 |.bool,x,cs,0,c::l,vs,y,j,i,g,d,f,b=>by
  simp only[Al]at b;split at b
  .rename_i n rest z;cases b;obtain⟨m,p,q,s,A⟩:=VF rfl g d f z;exact⟨m,p,q,s,A,fun _ h=>by simp[h]⟩
  .cases b
 |.str,x,cs,0,c::l,vs,y,j,i,g,d,f,b=>by
  simp only[Al]at b;split at b
  .rename_i n rest z;cases b;obtain⟨m,p,q,s,A⟩:=VF rfl g d f z;exact⟨m,p,q,s,A,fun _ h=>by simp[h]⟩
  .cases b
 |.sl e t,x,cs,0,c::l,vs,y,j,i,g,d,f,b=>by
  simp only[Al]at b;split at b
  .rename_i n rest z;cases b;obtain⟨m,p,q,s,A⟩:=VF rfl g d f z;exact⟨m,p,q,s,A,fun _ h=>by simp[h]⟩
  .cases b
 |.int k,x,cs,o+1,l,vs,y,j,i,g,d,f,b=>by simp only[Al]at b;cases b;obtain⟨u,rfl⟩:=H8 d rfl;exact⟨[u],vs,d,f,by cases o<;>rfl,fun _ h=>h⟩
 |.bool,x,cs,o+1,l,vs,y,j,i,g,d,f,b=>by simp only[Al]at b;cases b;obtain⟨u,rfl⟩:=H8 d rfl;exact⟨[u],vs,d,f,by cases o<;>rfl,fun _ h=>h⟩
 |.str,x,cs,o+1,l,vs,y,j,i,g,d,f,b=>by simp only[Al]at b;cases b;obtain⟨u,rfl⟩:=H8 d rfl;exact⟨[u],vs,d,f,by cases o<;>rfl,fun _ h=>h⟩
 |.sl e t,x,cs,o+1,l,vs,y,j,i,g,d,f,b=>by simp only[Al]at b;cases b;obtain⟨u,rfl⟩:=H8 d rfl;exact⟨[u],vs,d,f,by cases o<;>rfl,fun _ h=>h⟩
def Nk:∀{l:List AC},ca l=true->∀f e t xs,AC.ro f e t xs∈l->f=true
 |[],_,f,e,t,xs,hm=>by simp at hm
 |c::l,h,f,e,t,xs,hm=>by
  have b:ca l=true/\∀f e t xs,c=.ro f e t xs->f=true:=by
   cases c with
   |ro f e t xs =>
    simp only[ca,aD]at h;exact⟨h.2,fun g d i j e=>by cases e;exact h.1⟩
   |_=>exact⟨h,fun f e t xs d=>by cases d⟩
  rcases fe.1 hm with hm|hm
  .exact b.2 f e t xs hm.symm
  .exact Nk b.1 f e t xs hm
def ajT:∀{l:List AC},nN st l=true->∀id len,AC.own id len∈l->∃b,st.nS id=some b/\b.f=true
 |[],_,id,len,hm=>by simp at hm
 |c::l,h,id,len,hm=>by
  have f:nN st l=true/\∀d m,c=.own d m->∃b,st.nS d=some b/\b.f=true:=by
   cases c with
   |own d m =>
    simp only[nN,aD]at h;refine⟨h.2,fun i j e=>?_⟩;cases e;cases g:st.nS d with
    |none=>rw[g]at h;simp at h|some b=>rw[g]at h;exact⟨b,rfl,h.1⟩
   |_=>exact⟨h,fun d m e=>by cases e⟩
  rcases fe.1 hm with hm|hm
  .exact f.2 id len hm.symm
  .exact ajT f.1 id len hm
def aaz {id:Nat}:∀(l:List AC) (st:St),avU id l=true->look (st.freeze l).bl id=look st.bl id
 |[],st,_=>rfl|c::l,st,h=>by
  show look ((st.du c).freeze l).bl id=_;have f:avU id l=true/\∀d m,c=.own d m->d≠id:=by
   cases c with
   |own d m =>
    simp only[avU,aD]at h;refine⟨h.2,fun i j e=>?_⟩;cases e;exact bu h.1
   |_=>exact⟨h,fun d m e=>by cases e⟩
  rw[aaz l _ f.1];cases c with
  |own d m =>
   cases g:st.nS d with
   |none=>rw[PF g]
   |some b =>
    rw[l2 g];have:=f.2 d m rfl;simp[ar,this]
  |_=>rfl
def Nl {d:Gh}{l:List AC}(p:Inv w0 d (st.freeze l) a w)(q:nN st l=true){nf:Bool}(s:nf=true->ca l=true){bx:List (Nat×List AC)} :
  ∀t c v xs,c∈l->bm d w (st.freeze l).bx (st.freeze l).bl c v->cz (st.freeze l) t c=some xs->∀e,Rd w (RO d nf) (.sl e t) xs [v]:=by
 intro t c v xs h x y e;have m:∀f,(nf=true->f=true)->∀g,RO d f g->RO d nf g:=fun f i g z=>z.H4 i
 refine iV p x y (fun id len b j A=>?_) (fun f e u B j=>?_) e
 .subst j;obtain⟨n,C,i⟩:=ajT q id len h;have:=H7 l st id len n h (dx C);rw[A]at this;cases this;exact⟨m n.f fun _=>i,fun D=>by cases D⟩
 .subst j;exact m f fun E=>Nk (s E) f e u B h
def ag7 (h:Inv w0 G st a w)(t:TypeId)(x y:Operand)(qE:o.op=.store t x y)(qF:(st.dO y).kn=true)(T:afG (st.dO y).cells=true)(W:P.cellsOf t=(st.dO y).cells.length)(hi:(P.info? t).isSome=true)
  {id:Nat} {i:Int} {d:Nat} (qG:st.ac x=.Ak id i d) {b:fa} (qH:st.nS id=some b) (E:b.w=true) (X:nN st (st.dO y).cells=true) (Y:avU id (st.dO y).cells=true)
  {z:b.t.D} (Z:Al st b.t (b.xs.getD i.toNat b.t.aq) (d,(st.dO y).cells)=some (z,(0,[])))
  (qa:({(st.freeze (st.dO y).cells) with bl:=(id,some {b with xs:=b.xs.set i.toNat z,f:=b.f&&ca (st.dO y).cells})::(st.freeze (st.dO y).cells).bl}:St).pk o.dst (.SL []) k=some r) (qI:pD w0 k r K):o.wp P a w K Q:=by
 have qK:=dx qH;have qb:=(h.dO y).cells qF;have qd:=h.ac x;rw[qG]at qd;obtain⟨cs,qL⟩:∃cs,(st.dO y).cells=cs:=⟨_,rfl⟩;rw[qL]at qa Z X Y W T qb;obtain⟨s,I,qe,qf,qM⟩:=Inv.freeze cs h;have F:b6 (bm s w (st.freeze cs).bx (st.freeze cs).bl) cs (a.eval y).cells.toList:=qb.imp fun _ _=>bm.mono qe qf
 have qN:=bm.mono qe qf (c:=.Ak id i d) qd;have L:look (st.freeze cs).bl id=some (some b):=(aaz cs st Y).trans qK;obtain⟨_,_,xv,g,q,n,cap,C,xw,M⟩:=qN;have M:=M b L;have qg:=I.bl id b L;obtain⟨rows,bd,qh,qi⟩:=qg.wr E;obtain⟨hlen,qO⟩:=bd;rcases qO with ⟨D,_⟩|⟨xy,xz,cur,D,qP,qj,qk,qQ,ql,qm⟩
 .rw[C]at D;cases D
 .rw[C]at D;injection D with N qR qS
  injection N with N
  injection N with qT qW _
  subst qT qW qR qS;have qX:=qh g (by rw[C];rfl);have qY:i.toNat<b.xs.length:=by omega
  obtain⟨c,qn,qZ⟩:=qi i.toNat _ (getD_some qY b.t.aq);have xa:∀f:Bool,((b.f&&ca cs)=true->f=true)->∀g,RO s f g->RO s (b.f&&ca cs) g:=fun f xb g xc=>xc.H4 xb
  have qo:∀g,RO s b.f g->RO s (b.f&&ca cs) g:=xa b.f fun h=>by simp at h;exact h.1
  have xd:Al (st.freeze cs) b.t (b.xs.getD i.toNat b.t.aq) (d,cs)=some (z,(0,[])):=by rw[adm qM];exact Z
  obtain⟨qp,qq,qt,xe,qu,_⟩:=aq2 (ok:=RO s (b.f&&ca cs)) (Nl (bx:=st.bx) I X fun h=>by simp at h;exact h.2) (gS qo qn) F xd;have A:qq=[]:=by
   cases qq with
   |nil=>rfl|cons _ _=>exact xe.elim
  subst A;obtain⟨xf,qv⟩:=aq1 c d _ qp qu;have xA:=qn.len;have qw:=ai7 F (aax T);have qx:=F.len;have xB:cur.size=cap*b.t.n:=ql;have xg:(i.toNat+1)*b.t.n<=b.xs.length*b.t.n:=Fa _ (by omega);have xC:b.xs.length*b.t.n<=cap*b.t.n:=Fa _ qk;rw[J7,Px]at xg;obtain⟨l,A⟩:∃l,(a.eval y).cells.toList=l:=⟨_,rfl⟩;rw[A]at F qx qw qu qv xf;have qy:i.toNat*b.t.n+d+l.length<=cur.toList.length:=by simp;omega
  have O:=aaw (P:=P) (t:=t) (o:=0+(i.toNat*b.t.n+d)) (v:=a.eval y) (by rw[W,A];exact qx) hi qj (by rw[A];simp at qy ⊢;omega) (by rw[A];exact qw);rw[A,vd]at O;have R:∀q:Nat,(cur.toList.take (i.toNat*b.t.n+d)++l++cur.toList.drop (i.toNat*b.t.n+d+l.length))[q]?=if i.toNat*b.t.n+d<=q/\q<i.toNat*b.t.n+d+l.length then l[q-(i.toNat*b.t.n+d)]? else cur.toList[q]?:=fun q=>av8 qy q
  obtain⟨m,qz⟩:∃m,cur.toList.take (i.toNat*b.t.n+d)++l++cur.toList.drop (i.toNat*b.t.n+d+l.length)=m:=⟨_,rfl⟩;rw[qz]at O R;have qA:m.length=cur.size:=by rw[<-qz];simp;omega
  have qB:=YQ (w:=w) (cs:=m.toArray) qX (by simp);have xh:Dm s (w.setRow g m.toArray) id {b with xs:=b.xs.set i.toNat z,f:=b.f&&ca cs}:=by
   refine⟨fun _=>⟨m.take (b.xs.length*b.t.n),⟨?_,.inr ⟨g,cap,m.toArray,?_,qP,setRow_heap w g cur _ _ _ qj,by simpa using qk,qQ,by simp[qA,ql],by simp⟩⟩,qh,?_⟩,fun xi=>?_,qg.pos⟩
   .simp[qA];omega
   .simp[C]
   .intro j S B;dsimp only at B;have xj:j<b.xs.length:=by
     rcases QJ j b.xs.length with h|h
     .exact h
     .simp[List.getElem?_eq_none (show(b.xs.set i.toNat z).length<=j by simpa using h)]at B
    have xk:(j+1)*b.t.n<=b.xs.length*b.t.n:=Fa _ (by omega);rw[J7,Px]at xk;by_cases H:j=i.toNat
    .subst H;have:S=z:=by rw[List.getElem?_set]at B;simp[xj]at B;exact B.symm
     rw[this];refine⟨qp,qB.rd qt,fun ii u p=>?_⟩;have xm:ii<b.t.n:=by have:=qt.len;have xn:=(u9.1 p).1;omega
     rw[qv]at p;show(m.take (b.xs.length*b.t.n))[i.toNat*b.t.n+ii]?=some u;rw[Nc,ah (by omega),R];by_cases qC:d<=ii/\ii<d+l.length
     .rw[ah qC]at p;rw[ah (by omega),show i.toNat*b.t.n+ii-(i.toNat*b.t.n+d)=ii-d by omega];exact p
     .rw[af qC]at p;rw[af (by omega)];have:=qZ ii u p;rw[<-qm,Nc,ah (by omega)]at this;exact this
    .have xp:b.xs[j]?=some S:=by rw[List.getElem?_set]at B;simpa [fun e=>H (Eq.symm e),show ¬i.toNat=j from fun e=>H e.symm]using B
     obtain⟨xq,qD,xr⟩:=qi j S xp;refine⟨xq,gS qo (qB.rd qD),fun ii u p=>?_⟩;have xm:ii<b.t.n:=by have:=qD.len;have xn:=(u9.1 p).1;omega
     show(m.take (b.xs.length*b.t.n))[j*b.t.n+ii]?=some u;have xu:¬(i.toNat*b.t.n+d<=j*b.t.n+ii/\j*b.t.n+ii<i.toNat*b.t.n+d+l.length):=by
      rcases Nat.lt_or_gt_of_ne H with hlt|xD
      .have:(j+1)*b.t.n<=i.toNat*b.t.n:=Fa _ (by omega);rw[J7,Px]at this;omega
      .have:(i.toNat+1)*b.t.n<=j*b.t.n:=Fa _ (by omega);rw[J7,Px]at this;omega
     rw[Nc,ah (by omega),R,af xu];have:=xr ii u p;rw[<-qm,Nc,ah (by omega)]at this;exact this
   .rw[show b.w=false from xi]at E;cases E
  have hinv:=I.aCJ id b L E g (by rw[C];rfl) m.toArray {b with xs:=b.xs.set i.toNat z,f:=b.f&&ca cs} rfl xh;refine aAM (w':=w.setRow g m.toArray) ?_ (vX hinv (v:=.SL []) (u:=undef) ⟨#[],rfl,trivial⟩ qa qI);unfold execOp;rw[qE];dsimp only;rw[M];simp only[Instr.storeAt,Instr.sureAddr,Sem.run_bind,Sem.run_pure,Result.andThen_ok,vd,O]
end
end Go.Am
