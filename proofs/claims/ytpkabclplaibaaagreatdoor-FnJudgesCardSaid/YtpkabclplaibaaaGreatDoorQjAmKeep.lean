/- No condition. -/
import Derived.Test.YtpkabclplaibaaaGreatDoorQjAmRun
set_option linter.all false
namespace Go.Am
open Go.RowKit
variable [ec]
section
variable {P:Program} {w0:dU} {w:World} {G:Gh} {st:St} {a:Act}
def HQ:∀{l:List Nat} {n k i:Nat},idxOf l n k=some i->k<=i/\l[i-k]?=some n
 |[],_,_,_,h=>by simp[idxOf]at h
 |x::l,n,k,i,h=>by
  simp only[idxOf]at h;split at h
  .rename_i b;cases h;have:=aH b;subst this;exact⟨bu _,by simp⟩
  .obtain⟨d,c⟩:=HQ h;refine⟨by omega,?_⟩;have:i-k=(i-(k+1))+1:=by omega
   rw[this];simpa using c
def Xv {st:St}{env:List Nat}:∀{l:List Nat} {i n:Nat} {x:Option eC},look (Rv st env i l) n=some x ->
  ∃d id,n=1000000+(i+d)/\l[d]?=some id/\∀b,x=some b->idxOf env id 0=some (i+d)/\st.nO id=some b
 |[],i,n,x,h=>by simp[Rv,look]at h
 |id::l,i,n,x,h=>by
  simp only[Rv]at h;rw[aq]at h;by_cases e:1000000+i=n
  .simp only[e,gg]at h;refine⟨0,id,by omega,rfl,fun b c=>?_⟩;cases h;split at c
   .rename_i d f;split at c
    .rename_i g;have:=aH g;subst this;exact⟨f,c⟩
    .cases c
   .cases c
  .simp only[e,fz]at h;obtain⟨d,j,q,k,m⟩:=Xv h;refine⟨d+1,j,by omega,by simpa using k,fun b c=>?_⟩;obtain⟨o,p⟩:=m b c;exact⟨by rw[o];congr 1;omega,p⟩
def Ef {st:St}{env:List Nat}:∀{l:List Nat} {i j:Nat},j<l.length->(look (Rv st env i l) (1000000+(i+j))).isSome=true
 |[],i,j,h=>by simp at h
 |id::l,i,j,h=>by
  simp only[Rv];rw[aq];split
  .rfl
  .cases j with
   |zero=>simp at *
   |succ j =>
    have:=Ef (st:=st) (env:=env) (l:=l) (i:=i+1) (j:=j) (by simpa using h);rw[show i+(j+1)=i+1+j by omega];exact this
def amd {U V:Type}(f:Nat->V):∀{c:List Nat} {n:Nat} {x:V},look (c.map fun b=>(b,f b)) n=some x->n∈c/\x=f n
 |[],n,x,h=>by simp[look]at h
 |b::c,n,x,h=>by
  rw[rI,aq]at h;by_cases d:b=n
  .subst d;simp only[gg]at h;cases h;exact⟨by simp,rfl⟩
  .simp only[d,fz]at h;obtain⟨e,g⟩:=amd (U:=U) f h;exact⟨by simp[e],g⟩
def RI {V:Type}(f:Nat->V):∀{c:List Nat} {n:Nat},n∈c->(look (c.map fun b=>(b,f b)) n).isSome=true
 |b::c,n,h=>by
  rw[rI,aq];split
  .rfl
  .rename_i d;rcases dK.1 h with rfl|h
   .exact absurd rfl d
   .exact RI f h
def AF {U V:Type}(f:U->V):∀{l:List (Nat×U)} {n:Nat} {y:V},look (l.map fun x=>(x.1,f x.2)) n=some y->∃x,look l n=some x/\y=f x
 |[],n,y,h=>by simp[look]at h
 |(k,v)::l,n,y,h=>by
  rw[rI,aq]at h;rw[aq];by_cases b:k=n
  .simp only[b,gg]at h ⊢;cases h;exact⟨v,rfl,rfl⟩
  .simp only[b,fz]at h ⊢;exact AF f h
def Gh.ren (G:Gh)(b env:List Nat):Gh :=
 {nw:=G.nw,ok:=G.ok,hb:=G.hb,
  hv:=fun c=>match env[c-1000000]? with|some id=>G.hv id|none=>undef,
  own:=fun g=>match G.own g with
   |some (.bx d)=>if LY b d=true then some (.bx d) else none|some (.bl id)=>match idxOf env id 0 with|some i=>some (.bl (1000000+i))|none=>none
   |some .hid=>some .hid|none=>none}
def au8 (G:Gh)(w:World)(d env:List Nat):Un G w (G.ren d env) w:=⟨rfl,rfl,bu _,fun b _ c=>⟨by simp[Gh.ren,c],rfl⟩,fun b _ c=>⟨by simp[Gh.ren,c],rfl⟩⟩
def RJ {b env:List Nat}{id i:Nat}(h:idxOf env id 0=some i):(G.ren b env).hv (1000000+i)=G.hv id:=by
 have:=(HQ h).2;have c:1000000+i-1000000=i:=by omega
 simp only[Gh.ren,c];rw[Rm]at this;rw[this]
def anX {p env:List Nat}{bx:List (Nat×List AC)}(C:∀b,LY p b=true->(look bx b).isSome=true){c:AC}{v:Value}(h:bf G w st.bx st.bl c v) :
  bf (G.ren p env) w bx (Rv st env 0 env) (aeB env p c) v:=by
 have u:=au8 G w p env;have ax6:∀{o i:Nat},idxOf env o 0=some i->(look (Rv st env 0 env) (1000000+i)).isSome=true:=by
  intro o i d;have:=(HQ d).2;have m:i<env.length:=by rw[Rm]at this;exact(oQ.1 this).1
  have j:=Ef (st:=st) (env:=env) (l:=env) (i:=0) m;rw[uP]at j;exact j
 cases c with
 |none=>trivial|int k n=>exact h|bool b=>exact h|str s=>exact h|nil=>exact h|ro f e t xs=>exact u.rd (t:=.sl e t) h
 |own o len =>
  unfold aeB;dsimp only;split
  .rename_i i d;cases len with
   |none=>exact⟨ax6 d,by rw[RJ d];exact h.2.1,by rw[RJ d];exact h.2.2⟩
   |some l =>
    obtain⟨_,D,A,n,cap,y,m,j⟩:=h;exact⟨ax6 d,D,A,n,cap,by rw[RJ d];exact y,m,j⟩
  .trivial
 |ptr b off =>
  unfold aeB;dsimp only;split
  .exact⟨C b ‹_›,h.2⟩
  .trivial
 |fnp g b=>exact trivial|any=>exact h
 |vt o i off =>
  unfold aeB;dsimp only;split
  .rename_i E z;obtain⟨_,y,m,g,B,n,cap,j,F,H⟩:=h;refine⟨ax6 z,y,m,g,B,n,cap,by rw[RJ z];exact j,F,fun b r=>?_⟩;obtain⟨q,I,T,K,L⟩:=Xv r;obtain⟨W,M⟩:=L b rfl;have N:q=E:=by omega
   subst N;have:I=o:=by have:=(HQ z).2;rw[Rm,K]at this;exact eE this
   subst this;exact H b (dj M)
  .trivial
 |Oc f t x off =>
  obtain⟨b,B,c,O,r,cX,Q,R⟩:=h;have S:=u.ro b r cX.1;exact⟨b,B,c,O,r,⟨S.1,cX.2⟩,u.rd Q,R⟩
def Zk {U V γ:Type}{R:U->V->Prop}{S:γ->V->Prop}(f:U->γ)(c:∀a b,R a b->S (f a) b):∀{l:List U} {m:List V},bO R l m->bO S (l.map f) m
 |[],[],_=>trivial|a::l,b::m,h=>⟨c _ _ h.1,Zk f c h.2⟩|[],_::_,h=>h.elim|_::_,[],h=>h.elim
def ame {d env:List Nat}{bx:List (Nat×List AC)}(e:∀b,LY d b=true->(look bx b).isSome=true){c:CV}{v:Value}(h:dG G w st.bx st.bl c v) :
  dG (G.ren d env) w bx (Rv st env 0 env) (az4 env d c) v:=by
 cases c with
 |c x=>exact anX e h
 |agg l =>
  obtain⟨cs,f,g⟩:=h;exact⟨cs,f,Zk (aeB env d) (fun c v i=>anX e i) g⟩
def amf {d env:List Nat}{bx:List (Nat×List AC)}(e:∀b,LY d b=true->(look bx b).isSome=true){c:AV}{v:Value}(h:gh G w st.bx st.bl c v) :
  gh (G.ren d env) w bx (Rv st env 0 env) (az5 env d c) v:=by
 cases c with
 |v x=>exact ame e h
 |Od l =>
  obtain⟨cs,f,g⟩:=h;exact⟨cs,f,Zk (az4 env d) (fun c v i=>ame e i) g⟩
def as3 (h:Inv w0 G st a w)(E:List (Nat×AV))(M:∀x∈E,x.2=st.get x.1)(j env:List Nat)(N:∀b∈j,(look st.bx b).isSome=true):Inv w0 (G.ren j env) (aCX st E j env) a w:=by
 have u:=au8 G w j env;have r:∀b,LY j b=true->(look (j.map fun b=>(b,(asI st b).map (aeB env j))) b).isSome=true:=fun b y=>RI (fun b=>(asI st b).map (aeB env j)) (Mz.1 y)
 refine⟨h.nw,h.Y3,h.below,h.defers,h.size,amf r h.sp,h.Ed u,?_,?_,?_,?_⟩
 .intro t v O;obtain⟨x,m,rfl⟩:=AF (az5 env j) O;have Q:∀{l:List (Nat×AV)} {n:Nat} {x:AV},look l n=some x->(n,x)∈l:=by
   intro l
   induction l with
   |nil=>intro n x h;simp[look]at h
   |cons z l R =>
    intro n x h;rw[show z=(z.1,z.2) from rfl,aq]at h;by_cases A:z.1=n
    .simp only[A,gg]at h;cases h;rw[<-A];simp
    .simp only[A,fz]at h;simp[R h]
  have o:=M _ (Q m);dsimp only at o;subst o;exact amf r (h.ev (.tmp t))
 .intro d l S;obtain⟨m,rfl⟩:=amd (U:=Nat) (fun b=>(asI st b).map (aeB env j)) S;obtain⟨F,H⟩:=fy.1 (N d m);obtain⟨cs,e,o,q,p⟩:=h.bx d F H;refine⟨cs,e,o,?_,?_⟩
  .show(G.ren j env).own (G.hb d)=_;simp[Gh.ren,q,Mz.2 m]
  .have:asI st d=F:=by simp[asI,H]
   rw[this];exact Zk (aeB env j) (fun c v T=>anX r T) p
 .intro n b y;obtain⟨Z,id,m,o,q⟩:=Xv y;obtain⟨p,s⟩:=q b rfl;rw[uP]at m p;subst m;have B:=h.bl id b (dj s);refine⟨fun C=>?_,fun C=>?_,B.pos⟩
  .obtain⟨cs,W,X,Y⟩:=B.wr C;refine⟨cs,by rw[RJ p];exact W,fun g I=>?_,Y.mono u⟩;rw[RJ p]at I;have:=X g I;simp[Gh.ren,this,p]
  .rw[RJ p];exact u.rd (B.rd C)
 .intro g k f;simp only[Gh.ren]at f;cases D:G.own g with
  |none=>rw[D]at f;cases f
  |some K =>
   rw[D]at f;obtain⟨m,o,q⟩:=h.own g K D;cases K with
   |hid=>cases f;exact⟨m,o,trivial⟩
   |bx d =>
    dsimp only at f;split at f
    .cases f;exact⟨m,o,r d ‹_›,q.2⟩
    .cases f
   |bl id =>
    dsimp only at f;split at f
    .rename_i i L;cases f;refine⟨m,o,?_,?_⟩
     .have:=(HQ L).2;have p:i<env.length:=by rw[Rm]at this;exact(oQ.1 this).1
      have s:=Ef (st:=st) (env:=env) (l:=env) (i:=0) p;rw[uP]at s;exact s
     .rw[RJ L];exact q.2
    .cases f
def Oq:∀{l:List AV} {b:Nat},b∈Ru l->∃off,AV.v (.c (.ptr b off))∈l
 |[],b,h=>by simp[Ru]at h
 |x::l,b,h=>by
  unfold Ru at h;split at h
  .cases ‹_=[]›
  .rename_i g off f e;cases e;split at h
   .obtain⟨c,d⟩:=Oq h;exact⟨c,by simp[d]⟩
   .rcases dK.1 h with rfl|h
    .exact⟨off,by simp⟩
    .obtain⟨c,d⟩:=Oq h;exact⟨c,by simp[d]⟩
  .rename_i f _ e;cases e;obtain⟨c,d⟩:=Oq h;exact⟨c,by simp[d]⟩
def Xw (h:Inv w0 G st a w)(i:List Tmp):∃f,Inv w0 f (mR i st) a w:=by
 refine⟨_,as3 h _ (fun x d=>?_) _ _ (fun b g=>?_)⟩
 .obtain⟨t,_,rfl⟩:=JN.1 d;rfl
 .obtain⟨off,e⟩:=Oq g;rcases dK.1 e with c|e
  .have:=h.sp;rw[<-c]at this;exact this.1
  obtain⟨x,d,c⟩:=JN.1 e;obtain⟨t,_,rfl⟩:=JN.1 d;dsimp only at c;have:=h.ev (.tmp t);rw[show st.ev (.tmp t)=st.get t from rfl,c]at this;exact this.1
end
end Go.Am
