/- No condition. -/
import Derived.Test.YtnllfndlcahalaaGreatDoorQfAmRun
set_option linter.all false
namespace Go.Am
open Go.RowKit
section
variable {P:Program} {w0:fc} {w:World} {G:Gh} {st:St} {a:Act}
def Kb:∀{l:List Nat} {n k i:Nat},idxOf l n k=some i->k<=i/\l[i-k]?=some n
 |[],_,_,_,h=>by simp[idxOf]at h
 |x::l,n,k,i,h=>by
  simp only[idxOf]at h;split at h
  .rename_i b;cases h;have:=aO b;subst this;exact⟨bG _,by simp⟩
  .obtain⟨d,c⟩:=Kb h;refine⟨by omega,?_⟩;have:i-k=(i-(k+1))+1:=by omega
   rw[this];simpa using c
def abT {st:St}{env:List Nat}:∀{l:List Nat} {i n:Nat} {x:Option fN},look (Vx st env i l) n=some x ->
  ∃d id,n=1000000+(i+d)/\l[d]?=some id/\∀b,x=some b->idxOf env id 0=some (i+d)/\st.rI id=some b
 |[],i,n,x,h=>by simp[Vx,look]at h
 |id::l,i,n,x,h=>by
  simp only[Vx]at h;rw[au]at h;by_cases e:1000000+i=n
  .simp only[e,gL]at h;refine⟨0,id,by omega,rfl,fun b c=>?_⟩;cases h;split at c
   .rename_i d f;split at c
    .rename_i g;have:=aO g;subst this;exact⟨f,c⟩
    .cases c
   .cases c
  .simp only[e,gu]at h;obtain⟨d,j,q,k,m⟩:=abT h;refine⟨d+1,j,by omega,by simpa using k,fun b c=>?_⟩;obtain⟨o,p⟩:=m b c;exact⟨by rw[o];congr 1;omega,p⟩
def Gb {st:St}{env:List Nat}:∀{l:List Nat} {i j:Nat},j<l.length->(look (Vx st env i l) (1000000+(i+j))).isSome=true
 |[],i,j,h=>by simp at h
 |id::l,i,j,h=>by
  simp only[Vx];rw[au];split
  .rfl
  .cases j with
   |zero=>simp at *
   |succ j =>
    have:=Gb (st:=st) (env:=env) (l:=l) (i:=i+1) (j:=j) (by simpa using h);rw[show i+(j+1)=i+1+j by omega];exact this
def ati {U V:Type}(f:Nat->V):∀{c:List Nat} {n:Nat} {x:V},look (c.map fun b=>(b,f b)) n=some x->n∈c/\x=f n
 |[],n,x,h=>by simp[look]at h
 |b::c,n,x,h=>by
  rw[tf,au]at h;by_cases d:b=n
  .subst d;simp only[gL]at h;cases h;exact⟨by simp,rfl⟩
  .simp only[d,gu]at h;obtain⟨e,g⟩:=ati (U:=U) f h;exact⟨by simp[e],g⟩
def VO {V:Type}(f:Nat->V):∀{c:List Nat} {n:Nat},n∈c->(look (c.map fun b=>(b,f b)) n).isSome=true
 |b::c,n,h=>by
  rw[tf,au];split
  .rfl
  .rename_i d;rcases cT.1 h with rfl|h
   .exact absurd rfl d
   .exact VO f h
def YC {U V:Type}(f:U->V):∀{l:List (Nat×U)} {n:Nat} {y:V},look (l.map fun x=>(x.1,f x.2)) n=some y->∃x,look l n=some x/\y=f x
 |[],n,y,h=>by simp[look]at h
 |(k,v)::l,n,y,h=>by
  rw[tf,au]at h;rw[au];by_cases b:k=n
  .simp only[b,gL]at h ⊢;cases h;exact⟨v,rfl,rfl⟩
  .simp only[b,gu]at h ⊢;exact YC f h
def Gh.ren (G:Gh)(b env:List Nat):Gh :=
 {nw:=G.nw,ok:=G.ok,hb:=G.hb,
  hv:=fun c=>match env[c-1000000]? with|some id=>G.hv id|none=>undef,
  own:=fun g=>match G.own g with
   |some (.bx d)=>if Zd b d=true then some (.bx d) else none|some (.bl id)=>match idxOf env id 0 with|some i=>some (.bl (1000000+i))|none=>none
   |some .hid=>some .hid|none=>none}
def aC7 (G:Gh)(w:World)(d env:List Nat):Yw G w (G.ren d env) w:=⟨rfl,rfl,bG _,fun b _ c=>⟨by simp[Gh.ren,c],rfl⟩,fun b _ c=>⟨by simp[Gh.ren,c],rfl⟩⟩
def VP {b env:List Nat}{id i:Nat}(h:idxOf env id 0=some i):(G.ren b env).hv (1000000+i)=G.hv id:=by
 have:=(Kb h).2;have c:1000000+i-1000000=i:=by omega
 simp only[Gh.ren,c];rw[Vq]at this;rw[this]
def avn {p env:List Nat}{bx:List (Nat×List AC)}(C:∀b,Zd p b=true->(look bx b).isSome=true){c:AC}{v:Value}(h:bC G w st.bx st.bl c v) :
  bC (G.ren p env) w bx (Vx st env 0 env) (akz env p c) v:=by
 have u:=aC7 G w p env;have aGn:∀{o i:Nat},idxOf env o 0=some i->(look (Vx st env 0 env) (1000000+i)).isSome=true:=by
  intro o i d;have:=(Kb d).2;have m:i<env.length:=by rw[Vq]at this;exact(wN.1 this).1
  have j:=Gb (st:=st) (env:=env) (l:=env) (i:=0) m;rw[wO]at j;exact j
 cases c with
 |none=>trivial|int k n=>exact h|bool b=>exact h|str s=>exact h|nil=>exact h|ro f e t xs=>exact u.rd (t:=.sl e t) h
 |own o len =>
  unfold akz;dsimp only;split
  .rename_i i d;cases len with
   |none=>exact⟨aGn d,by rw[VP d];exact h.2.1,by rw[VP d];exact h.2.2⟩
   |some l =>
    obtain⟨_,D,A,n,cap,y,m,j⟩:=h;exact⟨aGn d,D,A,n,cap,by rw[VP d];exact y,m,j⟩
  .trivial
 |ptr b off =>
  unfold akz;dsimp only;split
  .exact⟨C b ‹_›,h.2⟩
  .trivial
 |fnp g b=>exact trivial|any=>exact h
 |Mi o i off =>
  unfold akz;dsimp only;split
  .rename_i E z;obtain⟨_,y,m,g,B,n,cap,j,F,H⟩:=h;refine⟨aGn z,y,m,g,B,n,cap,by rw[VP z];exact j,F,fun b r=>?_⟩;obtain⟨q,I,T,K,L⟩:=abT r;obtain⟨W,M⟩:=L b rfl;have N:q=E:=by omega
   subst N;have:I=o:=by have:=(Kb z).2;rw[Vq,K]at this;exact eT this
   subst this;exact H b (eG M)
  .trivial
 |UT f t x off =>
  obtain⟨b,B,c,O,r,df,Q,R⟩:=h;have S:=u.ro b r df.1;exact⟨b,B,c,O,r,⟨S.1,df.2⟩,u.rd Q,R⟩
def adP {U V γ:Type}{R:U->V->Prop}{S:γ->V->Prop}(f:U->γ)(c:∀a b,R a b->S (f a) b):∀{l:List U} {m:List V},ch R l m->ch S (l.map f) m
 |[],[],_=>trivial|a::l,b::m,h=>⟨c _ _ h.1,adP f c h.2⟩|[],_::_,h=>h.elim|_::_,[],h=>h.elim
def atj {d env:List Nat}{bx:List (Nat×List AC)}(e:∀b,Zd d b=true->(look bx b).isSome=true){c:CV}{v:Value}(h:eF G w st.bx st.bl c v) :
  eF (G.ren d env) w bx (Vx st env 0 env) (aIh env d c) v:=by
 cases c with
 |c x=>exact avn e h
 |agg l =>
  obtain⟨cs,f,g⟩:=h;exact⟨cs,f,adP (akz env d) (fun c v i=>avn e i) g⟩
def atk {d env:List Nat}{bx:List (Nat×List AC)}(e:∀b,Zd d b=true->(look bx b).isSome=true){c:AV}{v:Value}(h:jP G w st.bx st.bl c v) :
  jP (G.ren d env) w bx (Vx st env 0 env) (aIi env d c) v:=by
 cases c with
 |v x=>exact atj e h
 |Vf l =>
  obtain⟨cs,f,g⟩:=h;exact⟨cs,f,adP (aIh env d) (fun c v i=>atj e i) g⟩
def aA2 (h:Inv w0 G st a w)(E:List (Nat×AV))(M:∀x∈E,x.2=st.get x.1)(j env:List Nat)(N:∀b∈j,(look st.bx b).isSome=true):Inv w0 (G.ren j env) (aK0 st E j env) a w:=by
 have u:=aC7 G w j env;have r:∀b,Zd j b=true->(look (j.map fun b=>(b,(aAJ st b).map (akz env j))) b).isSome=true:=fun b y=>VO (fun b=>(aAJ st b).map (akz env j)) (VJ.1 y)
 refine⟨h.nw,h.rok,h.below,h.defers,h.size,atk r h.sp,h.F8 u,?_,?_,?_,?_⟩
 .intro t v O;obtain⟨x,m,rfl⟩:=YC (aIi env j) O;have Q:∀{l:List (Nat×AV)} {n:Nat} {x:AV},look l n=some x->(n,x)∈l:=by
   intro l
   induction l with
   |nil=>intro n x h;simp[look]at h
   |cons z l R =>
    intro n x h;rw[show z=(z.1,z.2) from rfl,au]at h;by_cases A:z.1=n
    .simp only[A,gL]at h;cases h;rw[<-A];simp
    .simp only[A,gu]at h;simp[R h]
  have o:=M _ (Q m);dsimp only at o;subst o;exact atk r (h.ev (.tmp t))
 .intro d l S;obtain⟨m,rfl⟩:=ati (U:=Nat) (fun b=>(aAJ st b).map (akz env j)) S;obtain⟨F,H⟩:=lX.1 (N d m);obtain⟨cs,e,o,q,p⟩:=h.bx d F H;refine⟨cs,e,o,?_,?_⟩
  .show(G.ren j env).own (G.hb d)=_;simp[Gh.ren,q,VJ.2 m]
  .have:aAJ st d=F:=by simp[aAJ,H]
   rw[this];exact adP (akz env j) (fun c v T=>avn r T) p
 .intro n b y;obtain⟨Z,id,m,o,q⟩:=abT y;obtain⟨p,s⟩:=q b rfl;rw[wO]at m p;subst m;have B:=h.bl id b (eG s);refine⟨fun C=>?_,fun C=>?_,B.pos⟩
  .obtain⟨cs,W,X,Y⟩:=B.wr C;refine⟨cs,by rw[VP p];exact W,fun g I=>?_,Y.mono u⟩;rw[VP p]at I;have:=X g I;simp[Gh.ren,this,p]
  .rw[VP p];exact u.rd (B.rd C)
 .intro g k f;simp only[Gh.ren]at f;cases D:G.own g with
  |none=>rw[D]at f;cases f
  |some K =>
   rw[D]at f;obtain⟨m,o,q⟩:=h.own g K D;cases K with
   |hid=>cases f;exact⟨m,o,trivial⟩
   |bx d =>
    dsimp only at f;split at f
    .cases f;exact⟨m,o,r d ‹_›,q.2⟩
    .cases f
   |bl id =>
    dsimp only at f;split at f
    .rename_i i L;cases f;refine⟨m,o,?_,?_⟩
     .have:=(Kb L).2;have p:i<env.length:=by rw[Vq]at this;exact(wN.1 this).1
      have s:=Gb (st:=st) (env:=env) (l:=env) (i:=0) p;rw[wO]at s;exact s
     .rw[VP L];exact q.2
    .cases f
def RU:∀{l:List AV} {b:Nat},b∈Vw l->∃off,AV.v (.c (.ptr b off))∈l
 |[],b,h=>by simp[Vw]at h
 |x::l,b,h=>by
  unfold Vw at h;split at h
  .cases ‹_=[]›
  .rename_i g off f e;cases e;split at h
   .obtain⟨c,d⟩:=RU h;exact⟨c,by simp[d]⟩
   .rcases cT.1 h with rfl|h
    .exact⟨off,by simp⟩
    .obtain⟨c,d⟩:=RU h;exact⟨c,by simp[d]⟩
  .rename_i f _ e;cases e;obtain⟨c,d⟩:=RU h;exact⟨c,by simp[d]⟩
def abU (h:Inv w0 G st a w)(i:List Tmp):∃f,Inv w0 f (keep i st) a w:=by
 refine⟨_,aA2 h _ (fun x d=>?_) _ _ (fun b g=>?_)⟩
 .obtain⟨t,_,rfl⟩:=E2.1 d;rfl
 .obtain⟨off,e⟩:=RU g;rcases cT.1 e with c|e
  .have:=h.sp;rw[<-c]at this;exact this.1
  obtain⟨x,d,c⟩:=E2.1 e;obtain⟨t,_,rfl⟩:=E2.1 d;dsimp only at c;have:=h.ev (.tmp t);rw[show st.ev (.tmp t)=st.get t from rfl,c]at this;exact this.1
end
end Go.Am
