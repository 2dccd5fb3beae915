/- No condition. -/
import Derived.Test.YtpkabclplaibaaaGreatDoorQhAmRun
set_option linter.all false
namespace Go.Am
open Go.RowKit
variable [ds]
section
variable {P:Program} {w0:di} {w:World} {G:Gh} {st:St} {a:Act}
def BL:∀{l:List Nat} {n k i:Nat},idxOf l n k=some i->k<=i/\l[i-k]?=some n
 |[],_,_,_,h=>by simp[idxOf]at h
 |x::l,n,k,i,h=>by
  simp only[idxOf]at h;split at h
  .rename_i b;cases h;have:=aA b;subst this;exact⟨bq _,by simp⟩
  .obtain⟨d,c⟩:=BL h;refine⟨by omega,?_⟩;have:i-k=(i-(k+1))+1:=by omega
   rw[this];simpa using c
def Ob {st:St}{env:List Nat}:∀{l:List Nat} {i n:Nat} {x:Option dD},look (Jj st env i l) n=some x ->
  ∃d id,n=1000000+(i+d)/\l[d]?=some id/\∀b,x=some b->idxOf env id 0=some (i+d)/\st.kA id=some b
 |[],i,n,x,h=>by simp[Jj,look]at h
 |id::l,i,n,x,h=>by
  simp only[Jj]at h;rw[ai]at h;by_cases e:1000000+i=n
  .simp only[e,eJ]at h;refine⟨0,id,by omega,rfl,fun b c=>?_⟩;cases h;split at c
   .rename_i d f;split at c
    .rename_i g;have:=aA g;subst this;exact⟨f,c⟩
    .cases c
   .cases c
  .simp only[e,eo]at h;obtain⟨d,j,q,k,m⟩:=Ob h;refine⟨d+1,j,by omega,by simpa using k,fun b c=>?_⟩;obtain⟨o,p⟩:=m b c;exact⟨by rw[o];congr 1;omega,p⟩
def x5 {st:St}{env:List Nat}:∀{l:List Nat} {i j:Nat},j<l.length->(look (Jj st env i l) (1000000+(i+j))).isSome=true
 |[],i,j,h=>by simp at h
 |id::l,i,j,h=>by
  simp only[Jj];rw[ai];split
  .rfl
  .cases j with
   |zero=>simp at *
   |succ j =>
    have:=x5 (st:=st) (env:=env) (l:=l) (i:=i+1) (j:=j) (by simpa using h);rw[show i+(j+1)=i+1+j by omega];exact this
def aaU {U V:Type}(f:Nat->V):∀{c:List Nat} {n:Nat} {x:V},look (c.map fun b=>(b,f b)) n=some x->n∈c/\x=f n
 |[],n,x,h=>by simp[look]at h
 |b::c,n,x,h=>by
  rw[kL,ai]at h;by_cases d:b=n
  .subst d;simp only[eJ]at h;cases h;exact⟨by simp,rfl⟩
  .simp only[d,eo]at h;obtain⟨e,g⟩:=aaU (U:=U) f h;exact⟨by simp[e],g⟩
def Jw {V:Type}(f:Nat->V):∀{c:List Nat} {n:Nat},n∈c->(look (c.map fun b=>(b,f b)) n).isSome=true
 |b::c,n,h=>by
  rw[kL,ai];split
  .rfl
  .rename_i d;rcases c7.1 h with rfl|h
   .exact absurd rfl d
   .exact Jw f h
def ua {U V:Type}(f:U->V):∀{l:List (Nat×U)} {n:Nat} {y:V},look (l.map fun x=>(x.1,f x.2)) n=some y->∃x,look l n=some x/\y=f x
 |[],n,y,h=>by simp[look]at h
 |(k,v)::l,n,y,h=>by
  rw[kL,ai]at h;rw[ai];by_cases b:k=n
  .simp only[b,eJ]at h ⊢;cases h;exact⟨v,rfl,rfl⟩
  .simp only[b,eo]at h ⊢;exact ua f h
def Gh.ren (G:Gh)(b env:List Nat):Gh :=
 {nw:=G.nw,ok:=G.ok,hb:=G.hb,
  hv:=fun c=>match env[c-1000000]? with|some id=>G.hv id|none=>undef,
  own:=fun g=>match G.own g with
   |some (.bx d)=>if EM b d=true then some (.bx d) else none|some (.bl id)=>match idxOf env id 0 with|some i=>some (.bl (1000000+i))|none=>none
   |some .hid=>some .hid|none=>none}
def ai5 (G:Gh)(w:World)(d env:List Nat):LB G w (G.ren d env) w:=⟨rfl,rfl,bq _,fun b _ c=>⟨by simp[Gh.ren,c],rfl⟩,fun b _ c=>⟨by simp[Gh.ren,c],rfl⟩⟩
def Jx {b env:List Nat}{id i:Nat}(h:idxOf env id 0=some i):(G.ren b env).hv (1000000+i)=G.hv id:=by
 have:=(BL h).2;have c:1000000+i-1000000=i:=by omega
 simp only[Gh.ren,c];rw[Rv]at this;rw[this]
def acv {p env:List Nat}{bx:List (Nat×List AC)}(C:∀b,EM p b=true->(look bx b).isSome=true){c:AC}{v:Value}(h:a7 G w st.bx st.bl c v) :
  a7 (G.ren p env) w bx (Jj st env 0 env) (Ub env p c) v:=by
 have u:=ai5 G w p env;have alO:∀{o i:Nat},idxOf env o 0=some i->(look (Jj st env 0 env) (1000000+i)).isSome=true:=by
  intro o i d;have:=(BL d).2;have m:i<env.length:=by rw[Rv]at this;exact(lu.1 this).1
  have j:=x5 (st:=st) (env:=env) (l:=env) (i:=0) m;rw[pF]at j;exact j
 cases c with
 |none=>trivial|int k n=>exact h|bool b=>exact h|str s=>exact h|nil=>exact h|ro f e t xs=>exact u.rd (t:=.sl e t) h
 |own o len =>
  unfold Ub;dsimp only;split
  .rename_i i d;cases len with
   |none=>exact⟨alO d,by rw[Jx d];exact h.2.1,by rw[Jx d];exact h.2.2⟩
   |some l =>
    obtain⟨_,D,A,n,cap,y,m,j⟩:=h;exact⟨alO d,D,A,n,cap,by rw[Jx d];exact y,m,j⟩
  .trivial
 |ptr b off =>
  unfold Ub;dsimp only;split
  .exact⟨C b ‹_›,h.2⟩
  .trivial
 |fnp g b=>exact trivial|any=>exact h
 |qV o i off =>
  unfold Ub;dsimp only;split
  .rename_i E z;obtain⟨_,y,m,g,B,n,cap,j,F,H⟩:=h;refine⟨alO z,y,m,g,B,n,cap,by rw[Jx z];exact j,F,fun b r=>?_⟩;obtain⟨q,I,T,K,L⟩:=Ob r;obtain⟨W,M⟩:=L b rfl;have N:q=E:=by omega
   subst N;have:I=o:=by have:=(BL z).2;rw[Rv,K]at this;exact dI this
   subst this;exact H b (cV M)
  .trivial
 |IS f t x off =>
  obtain⟨b,B,c,O,r,cR,Q,R⟩:=h;have S:=u.ro b r cR.1;exact⟨b,B,c,O,r,⟨S.1,cR.2⟩,u.rd Q,R⟩
def PK {U V γ:Type}{R:U->V->Prop}{S:γ->V->Prop}(f:U->γ)(c:∀a b,R a b->S (f a) b):∀{l:List U} {m:List V},bD R l m->bD S (l.map f) m
 |[],[],_=>trivial|a::l,b::m,h=>⟨c _ _ h.1,PK f c h.2⟩|[],_::_,h=>h.elim|_::_,[],h=>h.elim
def aaV {d env:List Nat}{bx:List (Nat×List AC)}(e:∀b,EM d b=true->(look bx b).isSome=true){c:CV}{v:Value}(h:da G w st.bx st.bl c v) :
  da (G.ren d env) w bx (Jj st env 0 env) (anL env d c) v:=by
 cases c with
 |c x=>exact acv e h
 |agg l =>
  obtain⟨cs,f,g⟩:=h;exact⟨cs,f,PK (Ub env d) (fun c v i=>acv e i) g⟩
def aaW {d env:List Nat}{bx:List (Nat×List AC)}(e:∀b,EM d b=true->(look bx b).isSome=true){c:AV}{v:Value}(h:eK G w st.bx st.bl c v) :
  eK (G.ren d env) w bx (Jj st env 0 env) (anM env d c) v:=by
 cases c with
 |v x=>exact aaV e h
 |GF l =>
  obtain⟨cs,f,g⟩:=h;exact⟨cs,f,PK (anL env d) (fun c v i=>aaV e i) g⟩
def ahe (h:Inv w0 G st a w)(E:List (Nat×AV))(M:∀x∈E,x.2=st.get x.1)(j env:List Nat)(N:∀b∈j,(look st.bx b).isSome=true):Inv w0 (G.ren j env) (aqG st E j env) a w:=by
 have u:=ai5 G w j env;have r:∀b,EM j b=true->(look (j.map fun b=>(b,(agU st b).map (Ub env j))) b).isSome=true:=fun b y=>Jw (fun b=>(agU st b).map (Ub env j)) (Fj.1 y)
 refine⟨h.nw,h.Pt,h.below,h.defers,h.size,aaW r h.sp,h.x3 u,?_,?_,?_,?_⟩
 .intro t v O;obtain⟨x,m,rfl⟩:=ua (anM env j) O;have Q:∀{l:List (Nat×AV)} {n:Nat} {x:AV},look l n=some x->(n,x)∈l:=by
   intro l
   induction l with
   |nil=>intro n x h;simp[look]at h
   |cons z l R =>
    intro n x h;rw[show z=(z.1,z.2) from rfl,ai]at h;by_cases A:z.1=n
    .simp only[A,eJ]at h;cases h;rw[<-A];simp
    .simp only[A,eo]at h;simp[R h]
  have o:=M _ (Q m);dsimp only at o;subst o;exact aaW r (h.ev (.tmp t))
 .intro d l S;obtain⟨m,rfl⟩:=aaU (U:=Nat) (fun b=>(agU st b).map (Ub env j)) S;obtain⟨F,H⟩:=ek.1 (N d m);obtain⟨cs,e,o,q,p⟩:=h.bx d F H;refine⟨cs,e,o,?_,?_⟩
  .show(G.ren j env).own (G.hb d)=_;simp[Gh.ren,q,Fj.2 m]
  .have:agU st d=F:=by simp[agU,H]
   rw[this];exact PK (Ub env j) (fun c v T=>acv r T) p
 .intro n b y;obtain⟨Z,id,m,o,q⟩:=Ob y;obtain⟨p,s⟩:=q b rfl;rw[pF]at m p;subst m;have B:=h.bl id b (cV s);refine⟨fun C=>?_,fun C=>?_,B.pos⟩
  .obtain⟨cs,W,X,Y⟩:=B.wr C;refine⟨cs,by rw[Jx p];exact W,fun g I=>?_,Y.mono u⟩;rw[Jx p]at I;have:=X g I;simp[Gh.ren,this,p]
  .rw[Jx p];exact u.rd (B.rd C)
 .intro g k f;simp only[Gh.ren]at f;cases D:G.own g with
  |none=>rw[D]at f;cases f
  |some K =>
   rw[D]at f;obtain⟨m,o,q⟩:=h.own g K D;cases K with
   |hid=>cases f;exact⟨m,o,trivial⟩
   |bx d =>
    dsimp only at f;split at f
    .cases f;exact⟨m,o,r d ‹_›,q.2⟩
    .cases f
   |bl id =>
    dsimp only at f;split at f
    .rename_i i L;cases f;refine⟨m,o,?_,?_⟩
     .have:=(BL L).2;have p:i<env.length:=by rw[Rv]at this;exact(lu.1 this).1
      have s:=x5 (st:=st) (env:=env) (l:=env) (i:=0) p;rw[pF]at s;exact s
     .rw[Jx L];exact q.2
    .cases f
def GR:∀{l:List AV} {b:Nat},b∈Ji l->∃off,AV.v (.c (.ptr b off))∈l
 |[],b,h=>by simp[Ji]at h
 |x::l,b,h=>by
  unfold Ji at h;split at h
  .cases ‹_=[]›
  .rename_i g off f e;cases e;split at h
   .obtain⟨c,d⟩:=GR h;exact⟨c,by simp[d]⟩
   .rcases c7.1 h with rfl|h
    .exact⟨off,by simp⟩
    .obtain⟨c,d⟩:=GR h;exact⟨c,by simp[d]⟩
  .rename_i f _ e;cases e;obtain⟨c,d⟩:=GR h;exact⟨c,by simp[d]⟩
def Oc (h:Inv w0 G st a w)(i:List Tmp):∃f,Inv w0 f (j4 i st) a w:=by
 refine⟨_,ahe h _ (fun x d=>?_) _ _ (fun b g=>?_)⟩
 .obtain⟨t,_,rfl⟩:=Bx.1 d;rfl
 .obtain⟨off,e⟩:=GR g;rcases c7.1 e with c|e
  .have:=h.sp;rw[<-c]at this;exact this.1
  obtain⟨x,d,c⟩:=Bx.1 e;obtain⟨t,_,rfl⟩:=Bx.1 d;dsimp only at c;have:=h.ev (.tmp t);rw[show st.ev (.tmp t)=st.get t from rfl,c]at this;exact this.1
end
end Go.Am
