/- No condition. -/
import Derived.Test.YtpkabclplaibaaaGreatDoorQjAmOps4
set_option linter.all false
namespace Go.Am
open Go.RowKit
variable [ec]
def wrC:List Value->Nat->List Value->List Value×(Nat×List Value)
 |[],o,b=>([],(o,b))|u::c,o+1,b=>let q:=wrC c o b;(u::q.1,q.2)
 |u::c,0,[]=>(u::c,(0,[]))|u::c,0,v::b=>let q:=wrC c 0 b;(v::q.1,q.2)
def Za:∀(c:List Value),wrC c 0 []=(c,(0,[]))
 |[]=>rfl|_::_=>rfl
def anO:∀(b c:List Value) (o:Nat) (vs:List Value),wrC (b++c) o vs=((wrC b o vs).1++(wrC c (wrC b o vs).2.1 (wrC b o vs).2.2).1,(wrC c (wrC b o vs).2.1 (wrC b o vs).2.2).2)
 |[],c,o,vs=>by cases o<;>rfl
 |u::b,c,o+1,vs=>by simp only[EX,wrC,anO b c o vs]
 |u::b,c,0,[]=>by simp only[EX,wrC,Za]
 |u::b,c,0,v::vs=>by simp only[EX,wrC,anO b c 0 vs]
def anP:∀(c:List Value) (o:Nat) (vs b:List Value),wrC c o vs=(b,(0,[]))->o+vs.length<=c.length/\∀i,b[i]?=if o<=i/\i<o+vs.length then vs[i-o]? else c[i]?
 |[],o,vs,b,h=>by
  cases o<;>(simp[wrC]at h)
  obtain⟨rfl,rfl⟩:=h;simp
 |u::c,o+1,vs,b,h=>by
  simp only[wrC]at h;injection h with d e
  obtain⟨g,f⟩:=anP c o vs (wrC c o vs).1 (by rw[<-e]);subst d;refine⟨by simp;omega,fun i=>?_⟩;cases i with
  |zero=>simp
  |succ i =>
   simp only[List.getElem?_cons_succ,f i];have j:(o+1<=i+1/\i+1<o+1+vs.length)↔(o<=i/\i<o+vs.length):=by omega
   simp only[j,show i+1-(o+1)=i-o by omega]
 |u::c,0,[],b,h=>by simp[wrC]at h;subst h;refine⟨by simp,fun i=>?_⟩;rw[ah (by simp)]
 |u::c,0,v::vs,b,h=>by
  simp only[wrC]at h;injection h with d e
  obtain⟨g,f⟩:=anP c 0 vs (wrC c 0 vs).1 (by rw[<-e]);subst d;refine⟨by simp at g ⊢;omega,fun i=>?_⟩;cases i with
  |zero=>simp
  |succ i =>
   simp only[List.getElem?_cons_succ,f i];by_cases l:i<vs.length
   .rw[an ⟨by omega,by omega⟩,an ⟨by omega,by simp;omega⟩];simp
   .rw[ah (by omega),ah (by simp;omega)]
def asR {b vs:List Value}{p:Nat}(h:p+vs.length<=b.length)(q:Nat):(b.take p++vs++b.drop (p+vs.length))[q]?=if p<=q/\q<p+vs.length then vs[q-p]? else b[q]?:=by
 simp only[mP,anm,cp,JK,ady];have e:min p b.length=p:=by omega
 rw[e];by_cases c:q<p
 .rw[an c,an c,ah (by omega)]
 .rw[ah c];by_cases d:q-p<vs.length
  .rw[an d,an ⟨by omega,by omega⟩]
  .rw[ah d,ah (by omega)]
   congr 1
   omega
section
variable {P:Program} {w0:dU} {w:World} {G:Gh} {st:St} {a:Act} {U:Type} {k:St->Option U} {r:U} {K:Act->World->Prop} {Q:Exit->Act->World->Prop} {o:Oper}
def abw {st b9:St}(h:fP st b9):∀(t:Ty) (x:t.D) (s:Nat×List AC),y4 b9 t x s=y4 st t x s
 |.unit,x,s=>rfl|.pair t u,x,s=>by
  simp only[y4];rw[abw h t];cases y4 st t x.1 s with
  |none=>rfl|some y=>dsimp only;rw[abw h u]
 |.int k,x,(0,[])=>rfl|.int k,x,(0,c::l)=>by simp only[y4];rw[sG h]
 |.int k,x,(o+1,l)=>rfl|.bool,x,(0,[])=>rfl|.bool,x,(0,c::l)=>by simp only[y4];rw[sG h]
 |.bool,x,(o+1,l)=>rfl|.str,x,(0,[])=>rfl|.str,x,(0,c::l)=>by simp only[y4];rw[sG h]
 |.str,x,(o+1,l)=>rfl|.sl _ _,x,(0,[])=>rfl|.sl _ _,x,(0,c::l)=>by simp only[y4];rw[sG h]
 |.sl _ _,x,(o+1,l)=>rfl
def HM {t:Ty}{ok:Nat->Prop}{x:t.D}{c:List Value}(h:Rd w ok t x c)(b:t.n=1):∃u,c=[u]:=by
 have:=h.len;rw[b]at this;cases c with
 |nil=>cases this
 |cons u c =>
  cases c with
  |nil=>exact⟨u,rfl⟩|cons _ _=>simp at this
def Uo {ok:Nat->Prop}{bx:List (Nat×List AC)}{bl:List (Nat×Option eC)}{t:Ty}(f:t.n=1){c:AC}{l:List AC}{vs:List Value}{cs:List Value}{x:t.D}{y:t.D}{rest:List AC}
  (m:∀e t b v xs,b∈c::l->bf G w bx bl b v->b8 st e t b=some xs->Rd w ok (.sl e t) xs [v]) (n:Rd w ok t x cs) (d:bO (bf G w bx bl) (c::l) vs) (p:im st t [c]=some (y,rest)) :
  ∃b g,Rd w ok t y b/\bO (bf G w bx bl) l g/\wrC cs 0 vs=(b,(0,g)):=by
 cases vs with
 |nil=>exact d.elim
 |cons v vs =>
  obtain⟨u,rfl⟩:=HM n f;obtain⟨s,A,h,i,_,_⟩:=Mu (l:=[c]) (vs:=[v]) (fun e t b q xs j=>m e t b q xs (by simp at j;simp[j])) ⟨d.1,trivial⟩ p;obtain⟨z,rfl⟩:=HM i f;have:z=v:=by simp at h;exact h.1.symm
  subst this;exact⟨[z],vs,i,d.2,by cases vs<;>rfl⟩
def anQ {ok:Nat->Prop}{bx:List (Nat×List AC)}{bl:List (Nat×Option eC)}:∀{t:Ty} {x:t.D} {cs:List Value} {o:Nat} {l:List AC} {vs:List Value} {y:t.D} {j:Nat} {i:List AC},
  (∀e t c v xs,c∈l->bf G w bx bl c v->b8 st e t c=some xs->Rd w ok (.sl e t) xs [v])->Rd w ok t x cs->bO (bf G w bx bl) l vs->y4 st t x (o,l)=some (y,(j,i)) ->
  ∃m p,Rd w ok t y m/\bO (bf G w bx bl) i p/\wrC cs o vs=(m,(j,p))/\∀c∈i,c∈l
 |.unit,x,cs,o,l,vs,y,j,i,g,d,f,b=>by simp only[y4]at b;cases b;rw[show cs=[] from d];exact⟨[],vs,rfl,f,by cases o<;>rfl,fun _ h=>h⟩
 |.pair t u,x,cs,o,l,vs,y,j,i,g,d,f,b=>by
  obtain⟨Y,Z,rfl,F,H⟩:=d;simp only[y4]at b;split at b
  .rename_i qa I q;obtain⟨qb,qd⟩:=I;split at b
   .rename_i qe L s;obtain⟨qf,qg⟩:=L;cases b;obtain⟨C,qh,M,N,O,D⟩:=anQ g F f q;obtain⟨E,R,S,T,W,X⟩:=anQ (fun e t c v xs B=>g e t c v xs (D c B)) H N s;refine⟨C++E,R,⟨C,E,rfl,M,S⟩,T,?_,fun c B=>D c (X c B)⟩;rw[anO,O];dsimp only;rw[W]
   .cases b
  .cases b
 |.int k,x,cs,0,[],vs,y,j,i,g,d,f,b=>by
  simp only[y4]at b;cases b;cases vs with
  |nil=>exact⟨cs,[],d,trivial,Za cs,fun _ h=>h⟩
  |cons _ _=>exact f.elim
 |.bool,x,cs,0,[],vs,y,j,i,g,d,f,b=>by
  simp only[y4]at b;cases b;cases vs with
  |nil=>exact⟨cs,[],d,trivial,Za cs,fun _ h=>h⟩
  |cons _ _=>exact f.elim
 |.str,x,cs,0,[],vs,y,j,i,g,d,f,b=>by
  simp only[y4]at b;cases b;cases vs with
  |nil=>exact⟨cs,[],d,trivial,Za cs,fun _ h=>h⟩
  |cons _ _=>exact f.elim
 |.sl e t,x,cs,0,[],vs,y,j,i,g,d,f,b=>by
  simp only[y4]at b;cases b;cases vs with
  |nil=>exact⟨cs,[],d,trivial,Za cs,fun _ h=>h⟩
  |cons _ _=>exact f.elim
 |.int k,x,cs,0,c::l,vs,y,j,i,g,d,f,b=>by
  simp only[y4]at b;split at b
  .rename_i n rest z;cases b;obtain⟨m,p,q,s,A⟩:=Uo rfl g d f z;exact⟨m,p,q,s,A,fun _ h=>by simp[h]⟩
  .cases b
 |.bool,x,cs,0,c::l,vs,y,j,i,g,d,f,b=>by
  simp only[y4]at b;split at b
  .rename_i n rest z;cases b;obtain⟨m,p,q,s,A⟩:=Uo rfl g d f z;exact⟨m,p,q,s,A,fun _ h=>by simp[h]⟩
  .cases b
 |.str,x,cs,0,c::l,vs,y,j,i,g,d,f,b=>by
  simp only[y4]at b;split at b
  .rename_i n rest z;cases b;obtain⟨m,p,q,s,A⟩:=Uo rfl g d f z;exact⟨m,p,q,s,A,fun _ h=>by simp[h]⟩
  .cases b
 |.sl e t,x,cs,0,c::l,vs,y,j,i,g,d,f,b=>by
  simp only[y4]at b;split at b
  .rename_i n rest z;cases b;obtain⟨m,p,q,s,A⟩:=Uo rfl g d f z;exact⟨m,p,q,s,A,fun _ h=>by simp[h]⟩
  .cases b
 |.int k,x,cs,o+1,l,vs,y,j,i,g,d,f,b=>by simp only[y4]at b;cases b;obtain⟨u,rfl⟩:=HM d rfl;exact⟨[u],vs,d,f,by cases o<;>rfl,fun _ h=>h⟩
 |.bool,x,cs,o+1,l,vs,y,j,i,g,d,f,b=>by simp only[y4]at b;cases b;obtain⟨u,rfl⟩:=HM d rfl;exact⟨[u],vs,d,f,by cases o<;>rfl,fun _ h=>h⟩
 |.str,x,cs,o+1,l,vs,y,j,i,g,d,f,b=>by simp only[y4]at b;cases b;obtain⟨u,rfl⟩:=HM d rfl;exact⟨[u],vs,d,f,by cases o<;>rfl,fun _ h=>h⟩
 |.sl e t,x,cs,o+1,l,vs,y,j,i,g,d,f,b=>by simp only[y4]at b;cases b;obtain⟨u,rfl⟩:=HM d rfl;exact⟨[u],vs,d,f,by cases o<;>rfl,fun _ h=>h⟩
def Mv:∀{l:List AC},bT l=true->∀f e t xs,AC.ro f e t xs∈l->f=true
 |[],_,f,e,t,xs,hm=>by simp at hm
 |c::l,h,f,e,t,xs,hm=>by
  have b:bT l=true/\∀f e t xs,c=.ro f e t xs->f=true:=by
   cases c with
   |ro f e t xs =>
    simp only[bT,aD]at h;exact⟨h.2,fun g d i j e=>by cases e;exact h.1⟩
   |_=>exact⟨h,fun f e t xs d=>by cases d⟩
  rcases dK.1 hm with hm|hm
  .exact b.2 f e t xs hm.symm
  .exact Mv b.1 f e t xs hm
def ag5:∀{l:List AC},nQ st l=true->∀id len,AC.own id len∈l->∃b,st.nO id=some b/\b.f=true
 |[],_,id,len,hm=>by simp at hm
 |c::l,h,id,len,hm=>by
  have f:nQ st l=true/\∀d m,c=.own d m->∃b,st.nO d=some b/\b.f=true:=by
   cases c with
   |own d m =>
    simp only[nQ,aD]at h;refine⟨h.2,fun i j e=>?_⟩;cases e;cases g:st.nO d with
    |none=>rw[g]at h;simp at h|some b=>rw[g]at h;exact⟨b,rfl,h.1⟩
   |_=>exact⟨h,fun d m e=>by cases e⟩
  rcases dK.1 hm with hm|hm
  .exact f.2 id len hm.symm
  .exact ag5 f.1 id len hm
def Zb {id:Nat}:∀(l:List AC) (st:St),asC id l=true->look (st.freeze l).bl id=look st.bl id
 |[],st,_=>rfl|c::l,st,h=>by
  show look ((st.df c).freeze l).bl id=_;have f:asC id l=true/\∀d m,c=.own d m->d≠id:=by
   cases c with
   |own d m =>
    simp only[asC,aD]at h;refine⟨h.2,fun i j e=>?_⟩;cases e;exact bo h.1
   |_=>exact⟨h,fun d m e=>by cases e⟩
  rw[Zb l _ f.1];cases c with
  |own d m =>
   cases g:st.nO d with
   |none=>rw[Om g]
   |some b =>
    rw[lZ g];have:=f.2 d m rfl;simp[aq,this]
  |_=>rfl
def Mw {d:Gh}{l:List AC}(p:Inv w0 d (st.freeze l) a w)(q:nQ st l=true){nf:Bool}(s:nf=true->bT l=true){bx:List (Nat×List AC)} :
  ∀e t c v xs,c∈l->bf d w (st.freeze l).bx (st.freeze l).bl c v->b8 (st.freeze l) e t c=some xs->Rd w (RO d nf) (.sl e t) xs [v]:=by
 intro e t c v xs h x y;have m:∀f,(nf=true->f=true)->∀g,RO d f g->RO d nf g:=fun f i g z=>z.HI i
 refine iS p x y (fun id len b j A=>?_) (fun f e u B j=>?_)
 .subst j;obtain⟨n,C,i⟩:=ag5 q id len h;have:=HL l st id len n h (dj C);rw[A]at this;cases this;exact⟨m n.f fun _=>i,fun D=>by cases D⟩
 .subst j;exact m f fun E=>Mv (s E) f e u B h
def aeE (h:Inv w0 G st a w)(t:TypeId)(x y:Operand)(qE:o.op=.store t x y)(qF:(st.dB y).kn=true)(T:adD (st.dB y).cells=true)(W:P.cellsOf t=(st.dB y).cells.length)(qG:(P.info? t).isSome=true)
  {id:Nat} {i:Int} {d:Nat} (qH:st.ac x=.vt id i d) {b:eC} (qI:st.nO id=some b) (E:b.w=true) (X:nQ st (st.dB y).cells=true) (Y:asC id (st.dB y).cells=true)
  {z:b.t.D} (Z:y4 st b.t (b.xs.getD i.toNat b.t.aw) (d,(st.dB y).cells)=some (z,(0,[])))
  (qa:({(st.freeze (st.dB y).cells) with bl:=(id,some {b with xs:=b.xs.set i.toNat z,f:=b.f&&bT (st.dB y).cells})::(st.freeze (st.dB y).cells).bl}:St).pk o.dst (.Od []) k=some r) (qK:pK w0 k r K):o.wp P a w K Q:=by
 have qL:=dj qI;have qb:=(h.dB y).cells qF;have qd:=h.ac x;rw[qH]at qd;obtain⟨cs,qM⟩:∃cs,(st.dB y).cells=cs:=⟨_,rfl⟩;rw[qM]at qa Z X Y W T qb;obtain⟨s,I,qe,qf,qN⟩:=Inv.freeze cs h;have F:bO (bf s w (st.freeze cs).bx (st.freeze cs).bl) cs (a.eval y).cells.toList:=qb.imp fun _ _=>bf.mono qe qf
 have qO:=bf.mono qe qf (c:=.vt id i d) qd;have L:look (st.freeze cs).bl id=some (some b):=(Zb cs st Y).trans qL;obtain⟨_,_,xv,g,q,n,cap,C,xw,M⟩:=qO;have M:=M b L;have qg:=I.bl id b L;obtain⟨rows,a1,qh,qi⟩:=qg.wr E;obtain⟨hlen,qP⟩:=a1;rcases qP with ⟨D,_⟩|⟨xy,xz,cur,D,qQ,qj,qk,qR,ql,qm⟩
 .rw[C]at D;cases D
 .rw[C]at D;injection D with N qS qT
  injection N with N
  injection N with qW qX _
  subst qW qX qS qT;have qY:=qh g (by rw[C];rfl);have qZ:i.toNat<b.xs.length:=by omega
  obtain⟨c,qn,xa⟩:=qi i.toNat _ (AA qZ b.t.aw);have xb:∀f:Bool,((b.f&&bT cs)=true->f=true)->∀g,RO s f g->RO s (b.f&&bT cs) g:=fun f xc g xd=>xd.HI xc
  have qo:∀g,RO s b.f g->RO s (b.f&&bT cs) g:=xb b.f fun h=>by simp at h;exact h.1
  have xe:y4 (st.freeze cs) b.t (b.xs.getD i.toNat b.t.aw) (d,cs)=some (z,(0,[])):=by rw[abw qN];exact Z
  obtain⟨qp,qq,qt,xf,qu,_⟩:=anQ (ok:=RO s (b.f&&bT cs)) (Mw (bx:=st.bx) I X fun h=>by simp at h;exact h.2) (gi qo qn) F xe;have A:qq=[]:=by
   cases qq with
   |nil=>rfl|cons _ _=>exact xf.elim
  subst A;obtain⟨xg,qv⟩:=anP c d _ qp qu;have xA:=qn.len;have qw:=agf F (Y9 T);have qx:=F.len;have xB:cur.size=cap*b.t.n:=ql;have xh:(i.toNat+1)*b.t.n<=b.xs.length*b.t.n:=y6 _ (by omega);have xC:b.xs.length*b.t.n<=cap*b.t.n:=y6 _ qk;rw[HC,VG]at xh;obtain⟨l,A⟩:∃l,(a.eval y).cells.toList=l:=⟨_,rfl⟩;rw[A]at F qx qw qu qv xg;have qy:i.toNat*b.t.n+d+l.length<=cur.toList.length:=by simp;omega
  have O:=Y8 (P:=P) (t:=t) (o:=0+(i.toNat*b.t.n+d)) (v:=a.eval y) (by rw[W,A];exact qx) qG qj (by rw[A];simp at qy ⊢;omega) (by rw[A];exact qw);rw[A,uP]at O;have R:∀q:Nat,(cur.toList.take (i.toNat*b.t.n+d)++l++cur.toList.drop (i.toNat*b.t.n+d+l.length))[q]?=if i.toNat*b.t.n+d<=q/\q<i.toNat*b.t.n+d+l.length then l[q-(i.toNat*b.t.n+d)]? else cur.toList[q]?:=fun q=>asR qy q
  obtain⟨m,qz⟩:∃m,cur.toList.take (i.toNat*b.t.n+d)++l++cur.toList.drop (i.toNat*b.t.n+d+l.length)=m:=⟨_,rfl⟩;rw[qz]at O R;have qA:m.length=cur.size:=by rw[<-qz];simp;omega
  have qB:=Xk (w:=w) (cs:=m.toArray) qY (by simp);have xi:C6 s (w.setRow g m.toArray) id {b with xs:=b.xs.set i.toNat z,f:=b.f&&bT cs}:=by
   refine⟨fun _=>⟨m.take (b.xs.length*b.t.n),⟨?_,.inr ⟨g,cap,m.toArray,?_,qQ,setRow_heap w g cur _ _ _ qj,by simpa using qk,qR,by simp[qA,ql],by simp⟩⟩,qh,?_⟩,fun xj=>?_,qg.pos⟩
   .simp[qA];omega
   .simp[C]
   .intro j S B;dsimp only at B;have xk:j<b.xs.length:=by
     rcases VE j b.xs.length with h|h
     .exact h
     .simp[List.getElem?_eq_none (show(b.xs.set i.toNat z).length<=j by simpa using h)]at B
    have xm:(j+1)*b.t.n<=b.xs.length*b.t.n:=y6 _ (by omega);rw[HC,VG]at xm;by_cases H:j=i.toNat
    .subst H;have:S=z:=by rw[List.getElem?_set]at B;simp[xk]at B;exact B.symm
     rw[this];refine⟨qp,qB.rd qt,fun ii u p=>?_⟩;have xn:ii<b.t.n:=by have:=qt.len;have xo:=(oQ.1 p).1;omega
     rw[qv]at p;show(m.take (b.xs.length*b.t.n))[i.toNat*b.t.n+ii]?=some u;rw[JK,an (by omega),R];by_cases qC:d<=ii/\ii<d+l.length
     .rw[an qC]at p;rw[an (by omega),show i.toNat*b.t.n+ii-(i.toNat*b.t.n+d)=ii-d by omega];exact p
     .rw[ah qC]at p;rw[ah (by omega)];have:=xa ii u p;rw[<-qm,JK,an (by omega)]at this;exact this
    .have xp:b.xs[j]?=some S:=by rw[List.getElem?_set]at B;simpa [fun e=>H (Eq.symm e),show ¬i.toNat=j from fun e=>H e.symm]using B
     obtain⟨xq,qD,xr⟩:=qi j S xp;refine⟨xq,gi qo (qB.rd qD),fun ii u p=>?_⟩;have xn:ii<b.t.n:=by have:=qD.len;have xo:=(oQ.1 p).1;omega
     show(m.take (b.xs.length*b.t.n))[j*b.t.n+ii]?=some u;have xu:¬(i.toNat*b.t.n+d<=j*b.t.n+ii/\j*b.t.n+ii<i.toNat*b.t.n+d+l.length):=by
      rcases Nat.lt_or_gt_of_ne H with hlt|xD
      .have:(j+1)*b.t.n<=i.toNat*b.t.n:=y6 _ (by omega);rw[HC,VG]at this;omega
      .have:(i.toNat+1)*b.t.n<=j*b.t.n:=y6 _ (by omega);rw[HC,VG]at this;omega
     rw[JK,an (by omega),R,ah xu];have:=xr ii u p;rw[<-qm,JK,an (by omega)]at this;exact this
   .rw[show b.w=false from xj]at E;cases E
  have hinv:=I.aAb id b L E g (by rw[C];rfl) m.toArray {b with xs:=b.xs.set i.toNat z,f:=b.f&&bT cs} rfl xi;refine axP (w':=w.setRow g m.toArray) ?_ (vx hinv (v:=.Od []) (u:=undef) ⟨#[],rfl,trivial⟩ qa qK);unfold execOp;rw[qE];dsimp only;rw[M];simp only[Instr.storeAt,Instr.sureAddr,Sem.run_bind,Sem.run_pure,Result.andThen_ok,uP,O]
end
end Go.Am
