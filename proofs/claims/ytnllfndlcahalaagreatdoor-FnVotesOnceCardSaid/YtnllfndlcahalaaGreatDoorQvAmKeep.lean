/- No condition. -/
import Derived.Test.YtnllfndlcahalaaGreatDoorQvAmRun
set_option linter.all false
namespace Go.Am
open Go.RowKit
section
variable {P:Program} {w0:fh} {w:World} {G:Gh} {st:St} {a:Act}
def Ks:∀{l:List Nat} {n k i:Nat},idxOf l n k=some i->k<=i/\l[i-k]?=some n
 |[],_,_,_,h=>by simp[idxOf]at h
 |x::l,n,k,i,h=>by
  simp only[idxOf]at h;split at h
  .rename_i b;cases h;have:=aP b;subst this;exact⟨bF _,by simp⟩
  .obtain⟨d,c⟩:=Ks h;refine⟨by omega,?_⟩;have:i-k=(i-(k+1))+1:=by omega
   rw[this];simpa using c
def acA {st:St}{env:List Nat}:∀{l:List Nat} {i n:Nat} {x:Option fU},look (VZ st env i l) n=some x ->
  ∃d id,n=1000000+(i+d)/\l[d]?=some id/\∀b,x=some b->idxOf env id 0=some (i+d)/\st.rL id=some b
 |[],i,n,x,h=>by simp[VZ,look]at h
 |id::l,i,n,x,h=>by
  simp only[VZ]at h;rw[au]at h;by_cases e:1000000+i=n
  .simp only[e,gR]at h;refine⟨0,id,by omega,rfl,fun b c=>?_⟩;cases h;split at c
   .rename_i d f;split at c
    .rename_i g;have:=aP g;subst this;exact⟨f,c⟩
    .cases c
   .cases c
  .simp only[e,gA]at h;obtain⟨d,j,q,k,m⟩:=acA h;refine⟨d+1,j,by omega,by simpa using k,fun b c=>?_⟩;obtain⟨o,p⟩:=m b c;exact⟨by rw[o];congr 1;omega,p⟩
def Gs {st:St}{env:List Nat}:∀{l:List Nat} {i j:Nat},j<l.length->(look (VZ st env i l) (1000000+(i+j))).isSome=true
 |[],i,j,h=>by simp at h
 |id::l,i,j,h=>by
  simp only[VZ];rw[au];split
  .rfl
  .cases j with
   |zero=>simp at *
   |succ j =>
    have:=Gs (st:=st) (env:=env) (l:=l) (i:=i+1) (j:=j) (by simpa using h);rw[show i+(j+1)=i+1+j by omega];exact this
def aue {U V:Type}(f:Nat->V):∀{c:List Nat} {n:Nat} {x:V},look (c.map fun b=>(b,f b)) n=some x->n∈c/\x=f n
 |[],n,x,h=>by simp[look]at h
 |b::c,n,x,h=>by
  rw[tf,au]at h;by_cases d:b=n
  .subst d;simp only[gR]at h;cases h;exact⟨by simp,rfl⟩
  .simp only[d,gA]at h;obtain⟨e,g⟩:=aue (U:=U) f h;exact⟨by simp[e],g⟩
def Wh {V:Type}(f:Nat->V):∀{c:List Nat} {n:Nat},n∈c->(look (c.map fun b=>(b,f b)) n).isSome=true
 |b::c,n,h=>by
  rw[tf,au];split
  .rfl
  .rename_i d;rcases cS.1 h with rfl|h
   .exact absurd rfl d
   .exact Wh f h
def Y9 {U V:Type}(f:U->V):∀{l:List (Nat×U)} {n:Nat} {y:V},look (l.map fun x=>(x.1,f x.2)) n=some y->∃x,look l n=some x/\y=f x
 |[],n,y,h=>by simp[look]at h
 |(k,v)::l,n,y,h=>by
  rw[tf,au]at h;rw[au];by_cases b:k=n
  .simp only[b,gR]at h ⊢;cases h;exact⟨v,rfl,rfl⟩
  .simp only[b,gA]at h ⊢;exact Y9 f h
def Gh.ren (G:Gh)(b env:List Nat):Gh :=
 {nw:=G.nw,ok:=G.ok,hb:=G.hb,
  hv:=fun c=>match env[c-1000000]? with|some id=>G.hv id|none=>undef,
  own:=fun g=>match G.own g with
   |some (.bx d)=>if ZJ b d=true then some (.bx d) else none|some (.bl id)=>match idxOf env id 0 with|some i=>some (.bl (1000000+i))|none=>none
   |some .hid=>some .hid|none=>none}
def aDR (G:Gh)(w:World)(d env:List Nat):Y3 G w (G.ren d env) w:=⟨rfl,rfl,bF _,fun b _ c=>⟨by simp[Gh.ren,c],rfl⟩,fun b _ c=>⟨by simp[Gh.ren,c],rfl⟩⟩
def Wi {b env:List Nat}{id i:Nat}(h:idxOf env id 0=some i):(G.ren b env).hv (1000000+i)=G.hv id:=by
 have:=(Ks h).2;have c:1000000+i-1000000=i:=by omega
 simp only[Gh.ren,c];rw[VS]at this;rw[this]
def awe {p env:List Nat}{bx:List (Nat×List AC)}(C:∀b,ZJ p b=true->(look bx b).isSome=true){c:AC}{v:Value}(h:bC G w st.bx st.bl c v) :
  bC (G.ren p env) w bx (VZ st env 0 env) (alq env p c) v:=by
 have u:=aDR G w p env;have aG1:∀{o i:Nat},idxOf env o 0=some i->(look (VZ st env 0 env) (1000000+i)).isSome=true:=by
  intro o i d;have:=(Ks d).2;have m:i<env.length:=by rw[VS]at this;exact(wR.1 this).1
  have j:=Gs (st:=st) (env:=env) (l:=env) (i:=0) m;rw[wS]at j;exact j
 cases c with
 |none=>trivial|int k n=>exact h|bool b=>exact h|str s=>exact h|nil=>exact h|ro f e t xs=>exact u.rd (t:=.sl e t) h
 |own o len =>
  unfold alq;dsimp only;split
  .rename_i i d;cases len with
   |none=>exact⟨aG1 d,by rw[Wi d];exact h.2.1,by rw[Wi d];exact h.2.2⟩
   |some l =>
    obtain⟨_,D,A,n,cap,y,m,j⟩:=h;exact⟨aG1 d,D,A,n,cap,by rw[Wi d];exact y,m,j⟩
  .trivial
 |ptr b off =>
  unfold alq;dsimp only;split
  .exact⟨C b ‹_›,h.2⟩
  .trivial
 |fnp g b=>exact trivial|any=>exact h
 |ME o i off =>
  unfold alq;dsimp only;split
  .rename_i E z;obtain⟨_,y,m,g,B,n,cap,j,F,H⟩:=h;refine⟨aG1 z,y,m,g,B,n,cap,by rw[Wi z];exact j,F,fun b r=>?_⟩;obtain⟨q,I,T,K,L⟩:=acA r;obtain⟨W,M⟩:=L b rfl;have N:q=E:=by omega
   subst N;have:I=o:=by have:=(Ks z).2;rw[VS,K]at this;exact eV this
   subst this;exact H b (eI M)
  .trivial
 |Vn f t x off =>
  obtain⟨b,B,c,O,r,dd,Q,R⟩:=h;have S:=u.ro b r dd.1;exact⟨b,B,c,O,r,⟨S.1,dd.2⟩,u.rd Q,R⟩
def aeA {U V γ:Type}{R:U->V->Prop}{S:γ->V->Prop}(f:U->γ)(c:∀a b,R a b->S (f a) b):∀{l:List U} {m:List V},ch R l m->ch S (l.map f) m
 |[],[],_=>trivial|a::l,b::m,h=>⟨c _ _ h.1,aeA f c h.2⟩|[],_::_,h=>h.elim|_::_,[],h=>h.elim
def auf {d env:List Nat}{bx:List (Nat×List AC)}(e:∀b,ZJ d b=true->(look bx b).isSome=true){c:CV}{v:Value}(h:eH G w st.bx st.bl c v) :
  eH (G.ren d env) w bx (VZ st env 0 env) (aIY env d c) v:=by
 cases c with
 |c x=>exact awe e h
 |agg l =>
  obtain⟨cs,f,g⟩:=h;exact⟨cs,f,aeA (alq env d) (fun c v i=>awe e i) g⟩
def aug {d env:List Nat}{bx:List (Nat×List AC)}(e:∀b,ZJ d b=true->(look bx b).isSome=true){c:AV}{v:Value}(h:jQ G w st.bx st.bl c v) :
  jQ (G.ren d env) w bx (VZ st env 0 env) (aIZ env d c) v:=by
 cases c with
 |v x=>exact auf e h
 |VI l =>
  obtain⟨cs,f,g⟩:=h;exact⟨cs,f,aeA (aIY env d) (fun c v i=>auf e i) g⟩
def aBQ (h:Inv w0 G st a w)(E:List (Nat×AV))(M:∀x∈E,x.2=st.get x.1)(j env:List Nat)(N:∀b∈j,(look st.bx b).isSome=true):Inv w0 (G.ren j env) (aLN st E j env) a w:=by
 have u:=aDR G w j env;have r:∀b,ZJ j b=true->(look (j.map fun b=>(b,(aBx st b).map (alq env j))) b).isSome=true:=fun b y=>Wh (fun b=>(aBx st b).map (alq env j)) (Wb.1 y)
 refine⟨h.nw,h.rok,h.below,h.defers,h.size,aug r h.sp,h.Gp u,?_,?_,?_,?_⟩
 .intro t v O;obtain⟨x,m,rfl⟩:=Y9 (aIZ env j) O;have Q:∀{l:List (Nat×AV)} {n:Nat} {x:AV},look l n=some x->(n,x)∈l:=by
   intro l
   induction l with
   |nil=>intro n x h;simp[look]at h
   |cons z l R =>
    intro n x h;rw[show z=(z.1,z.2) from rfl,au]at h;by_cases A:z.1=n
    .simp only[A,gR]at h;cases h;rw[<-A];simp
    .simp only[A,gA]at h;simp[R h]
  have o:=M _ (Q m);dsimp only at o;subst o;exact aug r (h.ev (.tmp t))
 .intro d l S;obtain⟨m,rfl⟩:=aue (U:=Nat) (fun b=>(aBx st b).map (alq env j)) S;obtain⟨F,H⟩:=l2.1 (N d m);obtain⟨cs,e,o,q,p⟩:=h.bx d F H;refine⟨cs,e,o,?_,?_⟩
  .show(G.ren j env).own (G.hb d)=_;simp[Gh.ren,q,Wb.2 m]
  .have:aBx st d=F:=by simp[aBx,H]
   rw[this];exact aeA (alq env j) (fun c v T=>awe r T) p
 .intro n b y;obtain⟨Z,id,m,o,q⟩:=acA y;obtain⟨p,s⟩:=q b rfl;rw[wS]at m p;subst m;have B:=h.bl id b (eI s);refine⟨fun C=>?_,fun C=>?_,B.pos⟩
  .obtain⟨cs,W,X,Y⟩:=B.wr C;refine⟨cs,by rw[Wi p];exact W,fun g I=>?_,Y.mono u⟩;rw[Wi p]at I;have:=X g I;simp[Gh.ren,this,p]
  .rw[Wi p];exact u.rd (B.rd C)
 .intro g k f;simp only[Gh.ren]at f;cases D:G.own g with
  |none=>rw[D]at f;cases f
  |some K =>
   rw[D]at f;obtain⟨m,o,q⟩:=h.own g K D;cases K with
   |hid=>cases f;exact⟨m,o,trivial⟩
   |bx d =>
    dsimp only at f;split at f
    .cases f;exact⟨m,o,r d ‹_›,q.2⟩
    .cases f
   |bl id =>
    dsimp only at f;split at f
    .rename_i i L;cases f;refine⟨m,o,?_,?_⟩
     .have:=(Ks L).2;have p:i<env.length:=by rw[VS]at this;exact(wR.1 this).1
      have s:=Gs (st:=st) (env:=env) (l:=env) (i:=0) p;rw[wS]at s;exact s
     .rw[Wi L];exact q.2
    .cases f
def Sn:∀{l:List AV} {b:Nat},b∈VY l->∃off,AV.v (.c (.ptr b off))∈l
 |[],b,h=>by simp[VY]at h
 |x::l,b,h=>by
  unfold VY at h;split at h
  .cases ‹_=[]›
  .rename_i g off f e;cases e;split at h
   .obtain⟨c,d⟩:=Sn h;exact⟨c,by simp[d]⟩
   .rcases cS.1 h with rfl|h
    .exact⟨off,by simp⟩
    .obtain⟨c,d⟩:=Sn h;exact⟨c,by simp[d]⟩
  .rename_i f _ e;cases e;obtain⟨c,d⟩:=Sn h;exact⟨c,by simp[d]⟩
def acB (h:Inv w0 G st a w)(i:List Tmp):∃f,Inv w0 f (keep i st) a w:=by
 refine⟨_,aBQ h _ (fun x d=>?_) _ _ (fun b g=>?_)⟩
 .obtain⟨t,_,rfl⟩:=Fc.1 d;rfl
 .obtain⟨off,e⟩:=Sn g;rcases cS.1 e with c|e
  .have:=h.sp;rw[<-c]at this;exact this.1
  obtain⟨x,d,c⟩:=Fc.1 e;obtain⟨t,_,rfl⟩:=Fc.1 d;dsimp only at c;have:=h.ev (.tmp t);rw[show st.ev (.tmp t)=st.get t from rfl,c]at this;exact this.1
end
end Go.Am
