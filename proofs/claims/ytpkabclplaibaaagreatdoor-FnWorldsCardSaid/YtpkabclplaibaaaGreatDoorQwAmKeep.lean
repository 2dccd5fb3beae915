/- No condition. -/
import Derived.Test.YtpkabclplaibaaaGreatDoorQwAmRun
set_option linter.all false
namespace Go.Am
open Go.RowKit
variable [ei]
section
variable {P:Program} {w0:dY} {w:World} {G:Gh} {st:St} {a:Act}
def Jq:∀{l:List Nat} {n k i:Nat},idxOf l n k=some i->k<=i/\l[i-k]?=some n
 |[],_,_,_,h=>by simp[idxOf]at h
 |x::l,n,k,i,h=>by
  simp only[idxOf]at h;split at h
  .rename_i b;cases h;have:=aK b;subst this;exact⟨bh _,by simp⟩
  .obtain⟨d,c⟩:=Jq h;refine⟨by omega,?_⟩;have:i-k=(i-(k+1))+1:=by omega
   rw[this];simpa using c
def ZL {st:St}{env:List Nat}:∀{l:List Nat} {i n:Nat} {x:Option eF},look (TG st env i l) n=some x ->
  ∃d id,n=1000000+(i+d)/\l[d]?=some id/\∀b,x=some b->idxOf env id 0=some (i+d)/\st.oi id=some b
 |[],i,n,x,h=>by simp[TG,look]at h
 |id::l,i,n,x,h=>by
  simp only[TG]at h;rw[ar]at h;by_cases e:1000000+i=n
  .simp only[e,gr]at h;refine⟨0,id,by omega,rfl,fun b c=>?_⟩;cases h;split at c
   .rename_i d f;split at c
    .rename_i g;have:=aK g;subst this;exact⟨f,c⟩
    .cases c
   .cases c
  .simp only[e,fG]at h;obtain⟨d,j,q,k,m⟩:=ZL h;refine⟨d+1,j,by omega,by simpa using k,fun b c=>?_⟩;obtain⟨o,p⟩:=m b c;exact⟨by rw[o];congr 1;omega,p⟩
def FA {st:St}{env:List Nat}:∀{l:List Nat} {i j:Nat},j<l.length->(look (TG st env i l) (1000000+(i+j))).isSome=true
 |[],i,j,h=>by simp at h
 |id::l,i,j,h=>by
  simp only[TG];rw[ar];split
  .rfl
  .cases j with
   |zero=>simp at *
   |succ j =>
    have:=FA (st:=st) (env:=env) (l:=l) (i:=i+1) (j:=j) (by simpa using h);rw[show i+(j+1)=i+1+j by omega];exact this
def apk {U V:Type}(f:Nat->V):∀{c:List Nat} {n:Nat} {x:V},look (c.map fun b=>(b,f b)) n=some x->n∈c/\x=f n
 |[],n,x,h=>by simp[look]at h
 |b::c,n,x,h=>by
  rw[sE,ar]at h;by_cases d:b=n
  .subst d;simp only[gr]at h;cases h;exact⟨by simp,rfl⟩
  .simp only[d,fG]at h;obtain⟨e,g⟩:=apk (U:=U) f h;exact⟨by simp[e],g⟩
def TT {V:Type}(f:Nat->V):∀{c:List Nat} {n:Nat},n∈c->(look (c.map fun b=>(b,f b)) n).isSome=true
 |b::c,n,h=>by
  rw[sE,ar];split
  .rfl
  .rename_i d;rcases cK.1 h with rfl|h
   .exact absurd rfl d
   .exact TT f h
def BX {U V:Type}(f:U->V):∀{l:List (Nat×U)} {n:Nat} {y:V},look (l.map fun x=>(x.1,f x.2)) n=some y->∃x,look l n=some x/\y=f x
 |[],n,y,h=>by simp[look]at h
 |(k,v)::l,n,y,h=>by
  rw[sE,ar]at h;rw[ar];by_cases b:k=n
  .simp only[b,gr]at h ⊢;cases h;exact⟨v,rfl,rfl⟩
  .simp only[b,fG]at h ⊢;exact BX f h
def Gh.ren (G:Gh)(b env:List Nat):Gh :=
 {nw:=G.nw,ok:=G.ok,hb:=G.hb,
  hv:=fun c=>match env[c-1000000]? with|some id=>G.hv id|none=>undef,
  own:=fun g=>match G.own g with
   |some (.bx d)=>if NK b d=true then some (.bx d) else none|some (.bl id)=>match idxOf env id 0 with|some i=>some (.bl (1000000+i))|none=>none
   |some .hid=>some .hid|none=>none}
def ayE (G:Gh)(w:World)(d env:List Nat):WD G w (G.ren d env) w:=⟨rfl,rfl,bh _,fun b _ c=>⟨by simp[Gh.ren,c],rfl⟩,fun b _ c=>⟨by simp[Gh.ren,c],rfl⟩⟩
def TU {b env:List Nat}{id i:Nat}(h:idxOf env id 0=some i):(G.ren b env).hv (1000000+i)=G.hv id:=by
 have:=(Jq h).2;have c:1000000+i-1000000=i:=by omega
 simp only[Gh.ren,c];rw[Tu]at this;rw[this]
def ara {p env:List Nat}{bx:List (Nat×List AC)}(C:∀b,NK p b=true->(look bx b).isSome=true){c:AC}{v:Value}(h:bo G w st.bx st.bl c v) :
  bo (G.ren p env) w bx (TG st env 0 env) (ahk env p c) v:=by
 have u:=ayE G w p env;have aBJ:∀{o i:Nat},idxOf env o 0=some i->(look (TG st env 0 env) (1000000+i)).isSome=true:=by
  intro o i d;have:=(Jq d).2;have m:i<env.length:=by rw[Tu]at this;exact(oC.1 this).1
  have j:=FA (st:=st) (env:=env) (l:=env) (i:=0) m;rw[vS]at j;exact j
 cases c with
 |none=>trivial|int k n=>exact h|bool b=>exact h|str s=>exact h|nil=>exact h|ro f e t xs=>exact u.rd (t:=.sl e t) h
 |own o len =>
  unfold ahk;dsimp only;split
  .rename_i i d;cases len with
   |none=>exact⟨aBJ d,by rw[TU d];exact h.2.1,by rw[TU d];exact h.2.2⟩
   |some l =>
    obtain⟨_,D,A,n,cap,y,m,j⟩:=h;exact⟨aBJ d,D,A,n,cap,by rw[TU d];exact y,m,j⟩
  .trivial
 |ptr b off =>
  unfold ahk;dsimp only;split
  .exact⟨C b ‹_›,h.2⟩
  .trivial
 |fnp g b=>exact trivial|any=>exact h
 |wS o i off =>
  unfold ahk;dsimp only;split
  .rename_i E z;obtain⟨_,y,m,g,B,n,cap,j,F,H⟩:=h;refine⟨aBJ z,y,m,g,B,n,cap,by rw[TU z];exact j,F,fun b r=>?_⟩;obtain⟨q,I,T,K,L⟩:=ZL r;obtain⟨W,M⟩:=L b rfl;have N:q=E:=by omega
   subst N;have:I=o:=by have:=(Jq z).2;rw[Tu,K]at this;exact eh this
   subst this;exact H b (dm M)
  .trivial
 |Qd f t x off =>
  obtain⟨b,B,c,O,r,cz,Q,R⟩:=h;have S:=u.ro b r cz.1;exact⟨b,B,c,O,r,⟨S.1,cz.2⟩,u.rd Q,R⟩
def abC {U V γ:Type}{R:U->V->Prop}{S:γ->V->Prop}(f:U->γ)(c:∀a b,R a b->S (f a) b):∀{l:List U} {m:List V},bY R l m->bY S (l.map f) m
 |[],[],_=>trivial|a::l,b::m,h=>⟨c _ _ h.1,abC f c h.2⟩|[],_::_,h=>h.elim|_::_,[],h=>h.elim
def apl {d env:List Nat}{bx:List (Nat×List AC)}(e:∀b,NK d b=true->(look bx b).isSome=true){c:CV}{v:Value}(h:dL G w st.bx st.bl c v) :
  dL (G.ren d env) w bx (TG st env 0 env) (aDI env d c) v:=by
 cases c with
 |c x=>exact ara e h
 |agg l =>
  obtain⟨cs,f,g⟩:=h;exact⟨cs,f,abC (ahk env d) (fun c v i=>ara e i) g⟩
def apm {d env:List Nat}{bx:List (Nat×List AC)}(e:∀b,NK d b=true->(look bx b).isSome=true){c:AV}{v:Value}(h:gu G w st.bx st.bl c v) :
  gu (G.ren d env) w bx (TG st env 0 env) (aDJ env d c) v:=by
 cases c with
 |v x=>exact apl e h
 |Qe l =>
  obtain⟨cs,f,g⟩:=h;exact⟨cs,f,abC (aDI env d) (fun c v i=>apl e i) g⟩
def awB (h:Inv w0 G st a w)(E:List (Nat×AV))(M:∀x∈E,x.2=st.get x.1)(j env:List Nat)(N:∀b∈j,(look st.bx b).isSome=true):Inv w0 (G.ren j env) (aGR st E j env) a w:=by
 have u:=ayE G w j env;have r:∀b,NK j b=true->(look (j.map fun b=>(b,(awg st b).map (ahk env j))) b).isSome=true:=fun b y=>TT (fun b=>(awg st b).map (ahk env j)) (On.1 y)
 refine⟨h.nw,h.rok,h.below,h.defers,h.size,apm r h.sp,h.Fy u,?_,?_,?_,?_⟩
 .intro t v O;obtain⟨x,m,rfl⟩:=BX (aDJ env j) O;have Q:∀{l:List (Nat×AV)} {n:Nat} {x:AV},look l n=some x->(n,x)∈l:=by
   intro l
   induction l with
   |nil=>intro n x h;simp[look]at h
   |cons z l R =>
    intro n x h;rw[show z=(z.1,z.2) from rfl,ar]at h;by_cases A:z.1=n
    .simp only[A,gr]at h;cases h;rw[<-A];simp
    .simp only[A,fG]at h;simp[R h]
  have o:=M _ (Q m);dsimp only at o;subst o;exact apm r (h.ev (.tmp t))
 .intro d l S;obtain⟨m,rfl⟩:=apk (U:=Nat) (fun b=>(awg st b).map (ahk env j)) S;obtain⟨F,H⟩:=fC.1 (N d m);obtain⟨cs,e,o,q,p⟩:=h.bx d F H;refine⟨cs,e,o,?_,?_⟩
  .show(G.ren j env).own (G.hb d)=_;simp[Gh.ren,q,On.2 m]
  .have:awg st d=F:=by simp[awg,H]
   rw[this];exact abC (ahk env j) (fun c v T=>ara r T) p
 .intro n b y;obtain⟨Z,id,m,o,q⟩:=ZL y;obtain⟨p,s⟩:=q b rfl;rw[vS]at m p;subst m;have B:=h.bl id b (dm s);refine⟨fun C=>?_,fun C=>?_,B.pos⟩
  .obtain⟨cs,W,X,Y⟩:=B.wr C;refine⟨cs,by rw[TU p];exact W,fun g I=>?_,Y.mono u⟩;rw[TU p]at I;have:=X g I;simp[Gh.ren,this,p]
  .rw[TU p];exact u.rd (B.rd C)
 .intro g k f;simp only[Gh.ren]at f;cases D:G.own g with
  |none=>rw[D]at f;cases f
  |some K =>
   rw[D]at f;obtain⟨m,o,q⟩:=h.own g K D;cases K with
   |hid=>cases f;exact⟨m,o,trivial⟩
   |bx d =>
    dsimp only at f;split at f
    .cases f;exact⟨m,o,r d ‹_›,q.2⟩
    .cases f
   |bl id =>
    dsimp only at f;split at f
    .rename_i i L;cases f;refine⟨m,o,?_,?_⟩
     .have:=(Jq L).2;have p:i<env.length:=by rw[Tu]at this;exact(oC.1 this).1
      have s:=FA (st:=st) (env:=env) (l:=env) (i:=0) p;rw[vS]at s;exact s
     .rw[TU L];exact q.2
    .cases f
def Qq:∀{l:List AV} {b:Nat},b∈TF l->∃off,AV.v (.c (.ptr b off))∈l
 |[],b,h=>by simp[TF]at h
 |x::l,b,h=>by
  unfold TF at h;split at h
  .cases ‹_=[]›
  .rename_i g off f e;cases e;split at h
   .obtain⟨c,d⟩:=Qq h;exact⟨c,by simp[d]⟩
   .rcases cK.1 h with rfl|h
    .exact⟨off,by simp⟩
    .obtain⟨c,d⟩:=Qq h;exact⟨c,by simp[d]⟩
  .rename_i f _ e;cases e;obtain⟨c,d⟩:=Qq h;exact⟨c,by simp[d]⟩
def ZM (h:Inv w0 G st a w)(i:List Tmp):∃f,Inv w0 f (nx i st) a w:=by
 refine⟨_,awB h _ (fun x d=>?_) _ _ (fun b g=>?_)⟩
 .obtain⟨t,_,rfl⟩:=Ey.1 d;rfl
 .obtain⟨off,e⟩:=Qq g;rcases cK.1 e with c|e
  .have:=h.sp;rw[<-c]at this;exact this.1
  obtain⟨x,d,c⟩:=Ey.1 e;obtain⟨t,_,rfl⟩:=Ey.1 d;dsimp only at c;have:=h.ev (.tmp t);rw[show st.ev (.tmp t)=st.get t from rfl,c]at this;exact this.1
end
end Go.Am
