/- No condition. -/
import Derived.Test.YtfapcfpkbahneaaGreatDoorQpAmRun
set_option linter.all false
namespace Go.Am
open Go.RowKit
section
variable {P:Program} {w0:fR} {w:World} {G:Gh} {st:St} {a:Act}
def JE:∀{l:List Nat} {n k i:Nat},idxOf l n k=some i->k<=i/\l[i-k]?=some n
 |[],_,_,_,h=>by simp[idxOf]at h
 |x::l,n,k,i,h=>by
  simp only[idxOf]at h;split at h
  .rename_i hb;cases h;have:=aP hb;subst this;exact⟨bZ _,by simp⟩
  .obtain⟨h1,h2⟩:=JE h;refine⟨by omega,?_⟩;have:i-k=(i-(k+1))+1:=by omega
   rw[this];simpa using h2
def abh {st:St}{env:List Nat}:∀{l:List Nat} {i n:Nat} {x:Option gB},look (U8 st env i l) n=some x ->
  ∃j id,n=1000000+(i+j)/\l[j]?=some id/\∀b,x=some b->idxOf env id 0=some (i+j)/\st.rZ id=some b
 |[],i,n,x,h=>by simp[U8,look]at h
 |id::l,i,n,x,h=>by
  simp only[U8]at h;rw[aw]at h;by_cases hn:1000000+i=n
  .simp only[hn,iA]at h;refine⟨0,id,by omega,rfl,fun b hb=>?_⟩;cases h;split at hb
   .rename_i j hj;split at hb
    .rename_i Zf;have:=aP Zf;subst this;exact⟨hj,hb⟩
    .cases hb
   .cases hb
  .simp only[hn,hZ]at h;obtain⟨j,id',h1,h2,h3⟩:=abh h;refine⟨j+1,id',by omega,by simpa using h2,fun b hb=>?_⟩;obtain⟨h4,h5⟩:=h3 b hb;exact⟨by rw[h4];congr 1;omega,h5⟩
def FC {st:St}{env:List Nat}:∀{l:List Nat} {i j:Nat},j<l.length->(look (U8 st env i l) (1000000+(i+j))).isSome=true
 |[],i,j,h=>by simp at h
 |id::l,i,j,h=>by
  simp only[U8];rw[aw];split
  .rfl
  .cases j with
   |zero=>simp at *
   |succ j =>
    have:=FC (st:=st) (env:=env) (l:=l) (i:=i+1) (j:=j) (by simpa using h);rw[show i+(j+1)=i+1+j by omega];exact this
def ats {U V:Type}(f:Nat->V):∀{bs:List Nat} {n:Nat} {x:V},look (bs.map fun b=>(b,f b)) n=some x->n∈bs/\x=f n
 |[],n,x,h=>by simp[look]at h
 |b::bs,n,x,h=>by
  rw[tW,aw]at h;by_cases hn:b=n
  .subst hn;simp only[iA]at h;cases h;exact⟨by simp,rfl⟩
  .simp only[hn,hZ]at h;obtain⟨h1,h2⟩:=ats (U:=U) f h;exact⟨by simp[h1],h2⟩
def Vs {V:Type}(f:Nat->V):∀{bs:List Nat} {n:Nat},n∈bs->(look (bs.map fun b=>(b,f b)) n).isSome=true
 |b::bs,n,h=>by
  rw[tW,aw];split
  .rfl
  .rename_i hn;rcases dE.1 h with rfl|h
   .exact absurd rfl hn
   .exact Vs f h
def X7 {U V:Type}(f:U->V):∀{l:List (Nat×U)} {n:Nat} {y:V},look (l.map fun x=>(x.1,f x.2)) n=some y->∃x,look l n=some x/\y=f x
 |[],n,y,h=>by simp[look]at h
 |(k,v)::l,n,y,h=>by
  rw[tW,aw]at h;rw[aw];by_cases hn:k=n
  .simp only[hn,iA]at h ⊢;cases h;exact⟨v,rfl,rfl⟩
  .simp only[hn,hZ]at h ⊢;exact X7 f h
def Gh.ren (G:Gh)(bs env:List Nat):Gh :=
 {nw:=G.nw,ok:=G.ok,hb:=G.hb,
  hv:=fun j=>match env[j-1000000]? with|some id=>G.hv id|none=>undef,
  own:=fun g=>match G.own g with
   |some (.bx d)=>if YI bs d=true then some (.bx d) else none|some (.bl id)=>match idxOf env id 0 with|some i=>some (.bl (1000000+i))|none=>none
   |some .hid=>some .hid|none=>none}
def aDz (G:Gh)(w:World)(bs env:List Nat):X1 G w (G.ren bs env) w:=⟨rfl,rfl,bZ _,fun b _ ho=>⟨by simp[Gh.ren,ho],rfl⟩,fun b _ ho=>⟨by simp[Gh.ren,ho],rfl⟩⟩
def Vt {bs env:List Nat}{id i:Nat}(h:idxOf env id 0=some i):(G.ren bs env).hv (1000000+i)=G.hv id:=by
 have:=(JE h).2;have h2:1000000+i-1000000=i:=by omega
 simp only[Gh.ren,h2];rw[U1]at this;rw[this]
def avu {bs env:List Nat}{bx:List (Nat×List AC)}(hbx:∀b,YI bs b=true->(look bx b).isSome=true){c:AC}{v:Value}(h:bS G w st.bx st.bl c v) :
  bS (G.ren bs env) w bx (U8 st env 0 env) (akb env bs c) v:=by
 have hx:=aDz G w bs env;have aHl:∀{id i:Nat},idxOf env id 0=some i->(look (U8 st env 0 env) (1000000+i)).isSome=true:=by
  intro id i hi;have:=(JE hi).2;have h2:i<env.length:=by rw[U1]at this;exact(xJ.1 this).1
  have h3:=FC (st:=st) (env:=env) (l:=env) (i:=0) h2;rw[xK]at h3;exact h3
 cases c with
 |none=>trivial|int k n=>exact h|bool b=>exact h|str s=>exact h|nil=>exact h|ro f e t xs=>exact hx.rd (t:=.sl e t) h
 |own id len =>
  unfold akb;dsimp only;split
  .rename_i i hi;cases len with
   |none=>exact⟨aHl hi,by rw[Vt hi];exact h.2.1,by rw[Vt hi];exact h.2.2⟩
   |some l =>
    obtain⟨_,h0,A,n,cap,h1,h2,h3⟩:=h;exact⟨aHl hi,h0,A,n,cap,by rw[Vt hi];exact h1,h2,h3⟩
  .trivial
 |ptr b off =>
  unfold akb;dsimp only;split
  .exact⟨hbx b ‹_›,h.2⟩
  .trivial
 |fnp g b=>exact trivial|any=>exact h
 |LI id i off =>
  unfold akb;dsimp only;split
  .rename_i j hj;obtain⟨_,h1,h2,g,o,n,cap,h3,h4,h5⟩:=h;refine⟨aHl hj,h1,h2,g,o,n,cap,by rw[Vt hj];exact h3,h4,fun b hb=>?_⟩;obtain⟨q,id',h6,h7,h8⟩:=abh hb;obtain⟨h9,Rc⟩:=h8 b rfl;have hq:q=j:=by omega
   subst hq;have:id'=id:=by have:=(JE hj).2;rw[U1,h7]at this;exact fJ this
   subst this;exact h5 b (fw Rc)
  .trivial
 |UA f t x off =>
  obtain⟨b,o,c,hv,hb,dZ,hr,hc⟩:=h;have ho':=hx.ro b hb dZ.1;exact⟨b,o,c,hv,hb,⟨ho'.1,dZ.2⟩,hx.rd hr,hc⟩
def adf {U V γ:Type}{R:U->V->Prop}{S:γ->V->Prop}(f:U->γ)(hf:∀a b,R a b->S (f a) b):∀{l:List U} {m:List V},cT R l m->cT S (l.map f) m
 |[],[],_=>trivial|a::l,b::m,h=>⟨hf _ _ h.1,adf f hf h.2⟩|[],_::_,h=>h.elim|_::_,[],h=>h.elim
def att {bs env:List Nat}{bx:List (Nat×List AC)}(hbx:∀b,YI bs b=true->(look bx b).isSome=true){c:CV}{v:Value}(h:fv G w st.bx st.bl c v) :
  fv (G.ren bs env) w bx (U8 st env 0 env) (aJB env bs c) v:=by
 cases c with
 |c x=>exact avu hbx h
 |agg l =>
  obtain⟨cs,he,hl⟩:=h;exact⟨cs,he,adf (akb env bs) (fun c v hc=>avu hbx hc) hl⟩
def atu {bs env:List Nat}{bx:List (Nat×List AC)}(hbx:∀b,YI bs b=true->(look bx b).isSome=true){c:AV}{v:Value}(h:kf G w st.bx st.bl c v) :
  kf (G.ren bs env) w bx (U8 st env 0 env) (aJC env bs c) v:=by
 cases c with
 |v x=>exact att hbx h
 |UO l =>
  obtain⟨cs,he,hl⟩:=h;exact⟨cs,he,adf (aJB env bs) (fun c v hc=>att hbx hc) hl⟩
def aBv (h:Inv w0 G st a w)(tm:List (Nat×AV))(htm:∀x∈tm,x.2=st.get x.1)(bs env:List Nat)(hbs:∀b∈bs,(look st.bx b).isSome=true):Inv w0 (G.ren bs env) (aNu st tm bs env) a w:=by
 have hx:=aDz G w bs env;have hbx:∀b,YI bs b=true->(look (bs.map fun b=>(b,(aA7 st b).map (akb env bs))) b).isSome=true:=fun b hb=>Vs (fun b=>(aA7 st b).map (akb env bs)) (Vl.1 hb)
 refine⟨h.nw,h.rok,h.below,h.defers,h.size,atu hbx h.sp,h.Fy hx,?_,?_,?_,?_⟩
 .intro t v hv;obtain⟨x,h1,rfl⟩:=X7 (aJC env bs) hv;have w9:∀{l:List (Nat×AV)} {n:Nat} {x:AV},look l n=some x->(n,x)∈l:=by
   intro l
   induction l with
   |nil=>intro n x h;simp[look]at h
   |cons z l ih =>
    intro n x h;rw[show z=(z.1,z.2) from rfl,aw]at h;by_cases hn:z.1=n
    .simp only[hn,iA]at h;cases h;rw[<-hn];simp
    .simp only[hn,hZ]at h;simp[ih h]
  have h2:=htm _ (w9 h1);dsimp only at h2;subst h2;exact atu hbx (h.ev (.tmp t))
 .intro d l hl;obtain⟨h1,rfl⟩:=ats (U:=Nat) (fun b=>(aA7 st b).map (akb env bs)) hl;obtain⟨l0,hl0⟩:=mA.1 (hbs d h1);obtain⟨cs,e,h2,h3,h4⟩:=h.bx d l0 hl0;refine⟨cs,e,h2,?_,?_⟩
  .show(G.ren bs env).own (G.hb d)=_;simp[Gh.ren,h3,Vl.2 h1]
  .have:aA7 st d=l0:=by simp[aA7,hl0]
   rw[this];exact adf (akb env bs) (fun c v hc=>avu hbx hc) h4
 .intro n b hb;obtain⟨j,id,h1,h2,h3⟩:=abh hb;obtain⟨h4,h5⟩:=h3 b rfl;rw[xK]at h1 h4;subst h1;have hbo:=h.bl id b (fw h5);refine⟨fun hw=>?_,fun hw=>?_,hbo.pos⟩
  .obtain⟨cs,h6,h7,h8⟩:=hbo.wr hw;refine⟨cs,by rw[Vt h4];exact h6,fun g hg=>?_,h8.mono hx⟩;rw[Vt h4]at hg;have:=h7 g hg;simp[Gh.ren,this,h4]
  .rw[Vt h4];exact hx.rd (hbo.rd hw)
 .intro g k hk;simp only[Gh.ren]at hk;cases ho:G.own g with
  |none=>rw[ho]at hk;cases hk
  |some k0 =>
   rw[ho]at hk;obtain⟨h1,h2,h3⟩:=h.own g k0 ho;cases k0 with
   |hid=>cases hk;exact⟨h1,h2,trivial⟩
   |bx d =>
    dsimp only at hk;split at hk
    .cases hk;exact⟨h1,h2,hbx d ‹_›,h3.2⟩
    .cases hk
   |bl id =>
    dsimp only at hk;split at hk
    .rename_i i hi;cases hk;refine⟨h1,h2,?_,?_⟩
     .have:=(JE hi).2;have h4:i<env.length:=by rw[U1]at this;exact(xJ.1 this).1
      have h5:=FC (st:=st) (env:=env) (l:=env) (i:=0) h4;rw[xK]at h5;exact h5
     .rw[Vt hi];exact h3.2
    .cases hk
def Rx:∀{l:List AV} {b:Nat},b∈U7 l->∃off,AV.v (.c (.ptr b off))∈l
 |[],b,h=>by simp[U7]at h
 |x::l,b,h=>by
  unfold U7 at h;split at h
  .cases ‹_=[]›
  .rename_i b' off l' he;cases he;split at h
   .obtain⟨o,ho⟩:=Rx h;exact⟨o,by simp[ho]⟩
   .rcases dE.1 h with rfl|h
    .exact⟨off,by simp⟩
    .obtain⟨o,ho⟩:=Rx h;exact⟨o,by simp[ho]⟩
  .rename_i l' _ he;cases he;obtain⟨o,ho⟩:=Rx h;exact⟨o,by simp[ho]⟩
def abi (h:Inv w0 G st a w)(live:List Tmp):∃G',Inv w0 G' (keep live st) a w:=by
 refine⟨_,aBv h _ (fun x hx=>?_) _ _ (fun b hb=>?_)⟩
 .obtain⟨t,_,rfl⟩:=Jr.1 hx;rfl
 .obtain⟨off,ho⟩:=Rx hb;rcases dE.1 ho with he|ho
  .have:=h.sp;rw[<-he]at this;exact this.1
  obtain⟨x,hx,he⟩:=Jr.1 ho;obtain⟨t,_,rfl⟩:=Jr.1 hx;dsimp only at he;have:=h.ev (.tmp t);rw[show st.ev (.tmp t)=st.get t from rfl,he]at this;exact this.1
end
end Go.Am
