/- No condition. -/
import Derived.Test.YtaheoongenkdbaaGreatDoorQsAmRun
set_option linter.all false
namespace Go.Am
open Go.RowKit
section
variable {P:Program} {w0:eA} {w:World} {G:Gh} {st:St} {a:Act}
def Ic:∀{l:List Nat} {n k i:Nat},idxOf l n k=some i->k<=i/\l[i-k]?=some n
 |[],_,_,_,h=>by simp[idxOf]at h
 |x::l,n,k,i,h=>by
  simp only[idxOf]at h;split at h
  .rename_i b;cases h;have:=aI b;subst this;exact⟨bP _,by simp⟩
  .obtain⟨d,c⟩:=Ic h;refine⟨by omega,?_⟩;have:i-k=(i-(k+1))+1:=by omega
   rw[this];simpa using c
def Y0 {st:St}{env:List Nat}:∀{l:List Nat} {i n:Nat} {x:Option fa},look (S0 st env i l) n=some x ->
  ∃d id,n=1000000+(i+d)/\l[d]?=some id/\∀b,x=some b->idxOf env id 0=some (i+d)/\st.nS id=some b
 |[],i,n,x,h=>by simp[S0,look]at h
 |id::l,i,n,x,h=>by
  simp only[S0]at h;rw[ar]at h;by_cases e:1000000+i=n
  .simp only[e,fE]at h;refine⟨0,id,by omega,rfl,fun b c=>?_⟩;cases h;split at c
   .rename_i d f;split at c
    .rename_i g;have:=aI g;subst this;exact⟨f,c⟩
    .cases c
   .cases c
  .simp only[e,fD]at h;obtain⟨d,j,q,k,m⟩:=Y0 h;refine⟨d+1,j,by omega,by simpa using k,fun b c=>?_⟩;obtain⟨o,p⟩:=m b c;exact⟨by rw[o];congr 1;omega,p⟩
def Es {st:St}{env:List Nat}:∀{l:List Nat} {i j:Nat},j<l.length->(look (S0 st env i l) (1000000+(i+j))).isSome=true
 |[],i,j,h=>by simp at h
 |id::l,i,j,h=>by
  simp only[S0];rw[ar];split
  .rfl
  .cases j with
   |zero=>simp at *
   |succ j =>
    have:=Es (st:=st) (env:=env) (l:=l) (i:=i+1) (j:=j) (by simpa using h);rw[show i+(j+1)=i+1+j by omega];exact this
def apq {U V:Type}(f:Nat->V):∀{c:List Nat} {n:Nat} {x:V},look (c.map fun b=>(b,f b)) n=some x->n∈c/\x=f n
 |[],n,x,h=>by simp[look]at h
 |b::c,n,x,h=>by
  rw[r8,ar]at h;by_cases d:b=n
  .subst d;simp only[fE]at h;cases h;exact⟨by simp,rfl⟩
  .simp only[d,fD]at h;obtain⟨e,g⟩:=apq (U:=U) f h;exact⟨by simp[e],g⟩
def Te {V:Type}(f:Nat->V):∀{c:List Nat} {n:Nat},n∈c->(look (c.map fun b=>(b,f b)) n).isSome=true
 |b::c,n,h=>by
  rw[r8,ar];split
  .rfl
  .rename_i d;rcases fe.1 h with rfl|h
   .exact absurd rfl d
   .exact Te f h
def VK {U V:Type}(f:U->V):∀{l:List (Nat×U)} {n:Nat} {y:V},look (l.map fun x=>(x.1,f x.2)) n=some y->∃x,look l n=some x/\y=f x
 |[],n,y,h=>by simp[look]at h
 |(k,v)::l,n,y,h=>by
  rw[r8,ar]at h;rw[ar];by_cases b:k=n
  .simp only[b,fE]at h ⊢;cases h;exact⟨v,rfl,rfl⟩
  .simp only[b,fD]at h ⊢;exact VK f h
def Gh.ren (G:Gh)(b env:List Nat):Gh :=
 {nw:=G.nw,ok:=G.ok,hb:=G.hb,
  hv:=fun c=>match env[c-1000000]? with|some id=>G.hv id|none=>undef,
  own:=fun g=>match G.own g with
   |some (.bx d)=>if Wn b d=true then some (.bx d) else none|some (.bl id)=>match idxOf env id 0 with|some i=>some (.bl (1000000+i))|none=>none
   |some .hid=>some .hid|none=>none}
def ax8 (G:Gh)(w:World)(d env:List Nat):VE G w (G.ren d env) w:=⟨rfl,rfl,bP _,fun b _ c=>⟨by simp[Gh.ren,c],rfl⟩,fun b _ c=>⟨by simp[Gh.ren,c],rfl⟩⟩
def Tf {b env:List Nat}{id i:Nat}(h:idxOf env id 0=some i):(G.ren b env).hv (1000000+i)=G.hv id:=by
 have:=(Ic h).2;have c:1000000+i-1000000=i:=by omega
 simp only[Gh.ren,c];rw[SR]at this;rw[this]
def aq9 {p env:List Nat}{bx:List (Nat×List AC)}(C:∀b,Wn p b=true->(look bx b).isSome=true){c:AC}{v:Value}(h:bm G w st.bx st.bl c v) :
  bm (G.ren p env) w bx (S0 st env 0 env) (ag6 env p c) v:=by
 have u:=ax8 G w p env;have aAZ:∀{o i:Nat},idxOf env o 0=some i->(look (S0 st env 0 env) (1000000+i)).isSome=true:=by
  intro o i d;have:=(Ic d).2;have m:i<env.length:=by rw[SR]at this;exact(u9.1 this).1
  have j:=Es (st:=st) (env:=env) (l:=env) (i:=0) m;rw[vd]at j;exact j
 cases c with
 |none=>trivial|int k n=>exact h|bool b=>exact h|str s=>exact h|nil=>exact h|ro f e t xs=>exact u.rd (t:=.sl e t) h
 |own o len =>
  unfold ag6;dsimp only;split
  .rename_i i d;cases len with
   |none=>exact⟨aAZ d,by rw[Tf d];exact h.2.1,by rw[Tf d];exact h.2.2⟩
   |some l =>
    obtain⟨_,D,A,n,cap,y,m,j⟩:=h;exact⟨aAZ d,D,A,n,cap,by rw[Tf d];exact y,m,j⟩
  .trivial
 |ptr b off =>
  unfold ag6;dsimp only;split
  .exact⟨C b ‹_›,h.2⟩
  .trivial
 |fnp g b=>exact trivial|any=>exact h
 |Ak o i off =>
  unfold ag6;dsimp only;split
  .rename_i E z;obtain⟨_,y,m,g,B,n,cap,j,F,H⟩:=h;refine⟨aAZ z,y,m,g,B,n,cap,by rw[Tf z];exact j,F,fun b r=>?_⟩;obtain⟨q,I,T,K,L⟩:=Y0 r;obtain⟨W,M⟩:=L b rfl;have N:q=E:=by omega
   subst N;have:I=o:=by have:=(Ic z).2;rw[SR,K]at this;exact eO this
   subst this;exact H b (dx M)
  .trivial
 |Sx f t x off =>
  obtain⟨b,B,c,O,r,cU,Q,R⟩:=h;have S:=u.ro b r cU.1;exact⟨b,B,c,O,r,⟨S.1,cU.2⟩,u.rd Q,R⟩
def aaI {U V γ:Type}{R:U->V->Prop}{S:γ->V->Prop}(f:U->γ)(c:∀a b,R a b->S (f a) b):∀{l:List U} {m:List V},b6 R l m->b6 S (l.map f) m
 |[],[],_=>trivial|a::l,b::m,h=>⟨c _ _ h.1,aaI f c h.2⟩|[],_::_,h=>h.elim|_::_,[],h=>h.elim
def apr {d env:List Nat}{bx:List (Nat×List AC)}(e:∀b,Wn d b=true->(look bx b).isSome=true){c:CV}{v:Value}(h:ei G w st.bx st.bl c v) :
  ei (G.ren d env) w bx (S0 st env 0 env) (aCD env d c) v:=by
 cases c with
 |c x=>exact aq9 e h
 |agg l =>
  obtain⟨cs,f,g⟩:=h;exact⟨cs,f,aaI (ag6 env d) (fun c v i=>aq9 e i) g⟩
def aps {d env:List Nat}{bx:List (Nat×List AC)}(e:∀b,Wn d b=true->(look bx b).isSome=true){c:AV}{v:Value}(h:hI G w st.bx st.bl c v) :
  hI (G.ren d env) w bx (S0 st env 0 env) (aCE env d c) v:=by
 cases c with
 |v x=>exact apr e h
 |SL l =>
  obtain⟨cs,f,g⟩:=h;exact⟨cs,f,aaI (aCD env d) (fun c v i=>apr e i) g⟩
def awj (h:Inv w0 G st a w)(E:List (Nat×AV))(M:∀x∈E,x.2=st.get x.1)(j env:List Nat)(N:∀b∈j,(look st.bx b).isSome=true):Inv w0 (G.ren j env) (aE5 st E j env) a w:=by
 have u:=ax8 G w j env;have r:∀b,Wn j b=true->(look (j.map fun b=>(b,(av0 st b).map (ag6 env j))) b).isSome=true:=fun b y=>Te (fun b=>(av0 st b).map (ag6 env j)) (S9.1 y)
 refine⟨h.nw,h.rok,h.below,h.defers,h.size,aps r h.sp,h.Eo u,?_,?_,?_,?_⟩
 .intro t v O;obtain⟨x,m,rfl⟩:=VK (aCE env j) O;have Q:∀{l:List (Nat×AV)} {n:Nat} {x:AV},look l n=some x->(n,x)∈l:=by
   intro l
   induction l with
   |nil=>intro n x h;simp[look]at h
   |cons z l R =>
    intro n x h;rw[show z=(z.1,z.2) from rfl,ar]at h;by_cases A:z.1=n
    .simp only[A,fE]at h;cases h;rw[<-A];simp
    .simp only[A,fD]at h;simp[R h]
  have o:=M _ (Q m);dsimp only at o;subst o;exact aps r (h.ev (.tmp t))
 .intro d l S;obtain⟨m,rfl⟩:=apq (U:=Nat) (fun b=>(av0 st b).map (ag6 env j)) S;obtain⟨F,H⟩:=ij.1 (N d m);obtain⟨cs,e,o,q,p⟩:=h.bx d F H;refine⟨cs,e,o,?_,?_⟩
  .show(G.ren j env).own (G.hb d)=_;simp[Gh.ren,q,S9.2 m]
  .have:av0 st d=F:=by simp[av0,H]
   rw[this];exact aaI (ag6 env j) (fun c v T=>aq9 r T) p
 .intro n b y;obtain⟨Z,id,m,o,q⟩:=Y0 y;obtain⟨p,s⟩:=q b rfl;rw[vd]at m p;subst m;have B:=h.bl id b (dx s);refine⟨fun C=>?_,fun C=>?_,B.pos⟩
  .obtain⟨cs,W,X,Y⟩:=B.wr C;refine⟨cs,by rw[Tf p];exact W,fun g I=>?_,Y.mono u⟩;rw[Tf p]at I;have:=X g I;simp[Gh.ren,this,p]
  .rw[Tf p];exact u.rd (B.rd C)
 .intro g k f;simp only[Gh.ren]at f;cases D:G.own g with
  |none=>rw[D]at f;cases f
  |some K =>
   rw[D]at f;obtain⟨m,o,q⟩:=h.own g K D;cases K with
   |hid=>cases f;exact⟨m,o,trivial⟩
   |bx d =>
    dsimp only at f;split at f
    .cases f;exact⟨m,o,r d ‹_›,q.2⟩
    .cases f
   |bl id =>
    dsimp only at f;split at f
    .rename_i i L;cases f;refine⟨m,o,?_,?_⟩
     .have:=(Ic L).2;have p:i<env.length:=by rw[SR]at this;exact(u9.1 this).1
      have s:=Es (st:=st) (env:=env) (l:=env) (i:=0) p;rw[vd]at s;exact s
     .rw[Tf L];exact q.2
    .cases f
def PI:∀{l:List AV} {b:Nat},b∈SZ l->∃off,AV.v (.c (.ptr b off))∈l
 |[],b,h=>by simp[SZ]at h
 |x::l,b,h=>by
  unfold SZ at h;split at h
  .cases ‹_=[]›
  .rename_i g off f e;cases e;split at h
   .obtain⟨c,d⟩:=PI h;exact⟨c,by simp[d]⟩
   .rcases fe.1 h with rfl|h
    .exact⟨off,by simp⟩
    .obtain⟨c,d⟩:=PI h;exact⟨c,by simp[d]⟩
  .rename_i f _ e;cases e;obtain⟨c,d⟩:=PI h;exact⟨c,by simp[d]⟩
def Y1 (h:Inv w0 G st a w)(i:List Tmp):∃f,Inv w0 f (keep i st) a w:=by
 refine⟨_,awj h _ (fun x d=>?_) _ _ (fun b g=>?_)⟩
 .obtain⟨t,_,rfl⟩:=HY.1 d;rfl
 .obtain⟨off,e⟩:=PI g;rcases fe.1 e with c|e
  .have:=h.sp;rw[<-c]at this;exact this.1
  obtain⟨x,d,c⟩:=HY.1 e;obtain⟨t,_,rfl⟩:=HY.1 d;dsimp only at c;have:=h.ev (.tmp t);rw[show st.ev (.tmp t)=st.get t from rfl,c]at this;exact this.1
end
end Go.Am
