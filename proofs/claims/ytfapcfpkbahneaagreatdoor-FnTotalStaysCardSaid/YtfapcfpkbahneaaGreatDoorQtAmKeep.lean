/- Lemmas for the claim. No condition. -/
import Derived.Test.YtfapcfpkbahneaaGreatDoorQtAmRun
set_option linter.all false
namespace Go.Am
open Go.RowKit
section
variable {P:Program} {w0:fJ} {w:World} {G:Gh} {st:St} {a:Act}
theorem Jj:∀{l:List Nat} {n k i:Nat},idxOf l n k=some i->k<=i/\l[i-k]?=some n
 |[],_,_,_,h=>by simp[idxOf]at h
 |x::l,n,k,i,h=>by
  simp only[idxOf]at h;split at h
  ·rename_i hb;cases h;have:=aP hb;subst this;exact⟨cp _,by simp⟩
  ·obtain⟨h1,h2⟩:=Jj h;refine⟨by omega,?_⟩;have:i-k=(i-(k+1))+1:=by omega
   rw[this];simpa using h2
theorem aaT {st:St}{env:List Nat}:∀{l:List Nat} {i n:Nat} {x:Option gp},look (Uy st env i l) n=some x ->
  ∃j id,n=1000000+(i+j)/\l[j]?=some id/\∀b,x=some b->idxOf env id 0=some (i+j)/\st.rS id=some b
 |[],i,n,x,h=>by simp[Uy,look]at h
 |id::l,i,n,x,h=>by
  simp only[Uy]at h;rw[aw]at h;by_cases hn:1000000+i=n
  ·simp only[hn,ig]at h;refine⟨0,id,by omega,rfl,fun b hb=>?_⟩;cases h;split at hb
   ·rename_i j hj;split at hb
    ·rename_i YQ;have:=aP YQ;subst this;exact⟨hj,hb⟩
    ·cases hb
   ·cases hb
  ·simp only[hn,gT]at h;obtain⟨j,id',h1,h2,h3⟩:=aaT h;refine⟨j+1,id',by omega,by simpa using h2,fun b hb=>?_⟩;obtain⟨h4,h5⟩:=h3 b hb;exact⟨by rw[h4];congr 1;omega,h5⟩
theorem Fi {st:St}{env:List Nat}:∀{l:List Nat} {i j:Nat},j<l.length->(look (Uy st env i l) (1000000+(i+j))).isSome=true
 |[],i,j,h=>by simp at h
 |id::l,i,j,h=>by
  simp only[Uy];rw[aw];split
  ·rfl
  ·cases j with
   |zero=>simp at *
   |succ j =>
    have:=Fi (st:=st) (env:=env) (l:=l) (i:=i+1) (j:=j) (by simpa using h);rw[show i+(j+1)=i+1+j by omega];exact this
theorem asp {α β:Type}(f:Nat->β):∀{bs:List Nat} {n:Nat} {x:β},look (bs.map fun b=>(b,f b)) n=some x->n∈bs/\x=f n
 |[],n,x,h=>by simp[look]at h
 |b::bs,n,x,h=>by
  rw[uh,aw]at h;by_cases hn:b=n
  ·subst hn;simp only[ig]at h;cases h;exact⟨by simp,rfl⟩
  ·simp only[hn,gT]at h;obtain⟨h1,h2⟩:=asp (α:=α) f h;exact⟨by simp[h1],h2⟩
theorem US {β:Type}(f:Nat->β):∀{bs:List Nat} {n:Nat},n∈bs->(look (bs.map fun b=>(b,f b)) n).isSome=true
 |b::bs,n,h=>by
  rw[uh,aw];split
  ·rfl
  ·rename_i hn;rcases gS.1 h with rfl|h
   ·exact absurd rfl hn
   ·exact US f h
theorem Xx {α β:Type}(f:α->β):∀{l:List (Nat×α)} {n:Nat} {y:β},look (l.map fun x=>(x.1,f x.2)) n=some y->∃x,look l n=some x/\y=f x
 |[],n,y,h=>by simp[look]at h
 |(k,v)::l,n,y,h=>by
  rw[uh,aw]at h;rw[aw];by_cases hn:k=n
  ·simp only[hn,ig]at h ⊢;cases h;exact⟨v,rfl,rfl⟩
  ·simp only[hn,gT]at h ⊢;exact Xx f h
def Gh.ren (G:Gh)(bs env:List Nat):Gh :=
 {nw:=G.nw,ok:=G.ok,hb:=G.hb,
  hv:=fun j=>match env[j-1000000]? with|some id=>G.hv id|none=>undef,
  own:=fun g=>match G.own g with
   |some (.bx d)=>if Yd bs d=true then some (.bx d) else none
   |some (.bl id)=>match idxOf env id 0 with|some i=>some (.bl (1000000+i))|none=>none
   |some .hid=>some .hid
   |none=>none}
theorem aB6 (G:Gh)(w:World)(bs env:List Nat):Xr G w (G.ren bs env) w:=⟨rfl,rfl,cp _,fun b _ ho=>⟨by simp[Gh.ren,ho],rfl⟩,fun b _ ho=>⟨by simp[Gh.ren,ho],rfl⟩⟩
theorem UT {bs env:List Nat}{id i:Nat}(h:idxOf env id 0=some i):(G.ren bs env).hv (1000000+i)=G.hv id:=by
 have:=(Jj h).2;have h2:1000000+i-1000000=i:=by omega
 simp only[Gh.ren,h2];rw[aaB]at this;rw[this]
theorem aug {bs env:List Nat}{bx:List (Nat×List AC)}(hbx:∀b,Yd bs b=true->(look bx b).isSome=true){c:AC}{v:Value}(h:bN G w st.bx st.bl c v) :
  bN (G.ren bs env) w bx (Uy st env 0 env) (ajB env bs c) v:=by
 have hx:=aB6 G w bs env;have aFI:∀{id i:Nat},idxOf env id 0=some i->(look (Uy st env 0 env) (1000000+i)).isSome=true:=by
  intro id i hi;have:=(Jj hi).2;have h2:i<env.length:=by rw[aaB]at this;exact(xV.1 this).1
  have h3:=Fi (st:=st) (env:=env) (l:=env) (i:=0) h2;rw[xf]at h3;exact h3
 cases c with
 |none=>trivial
 |int k n=>exact h
 |bool b=>exact h
 |str s=>exact h
 |nil=>exact h
 |ro f e t xs=>exact hx.rd (t:=.sl e t) h
 |own id len =>
  unfold ajB;dsimp only;split
  ·rename_i i hi;cases len with
   |none=>exact⟨aFI hi,by rw[UT hi];exact h.2.1,by rw[UT hi];exact h.2.2⟩
   |some l =>
    obtain⟨_,h0,A,n,cap,h1,h2,h3⟩:=h;exact⟨aFI hi,h0,A,n,cap,by rw[UT hi];exact h1,h2,h3⟩
  ·trivial
 |ptr b off =>
  unfold ajB;dsimp only;split
  ·exact⟨hbx b (by assumption),h.2⟩
  ·trivial
 |fnp g b=>exact trivial
 |any=>exact h
 |Ln id i off =>
  unfold ajB;dsimp only;split
  ·rename_i j hj;obtain⟨_,h1,h2,g,o,n,cap,h3,h4,h5⟩:=h;refine⟨aFI hj,h1,h2,g,o,n,cap,by rw[UT hj];exact h3,h4,fun b hb=>?_⟩;obtain⟨q,id',h6,h7,h8⟩:=aaT hb;obtain⟨h9,Sf⟩:=h8 b rfl;have hq:q=j:=by omega
   subst hq;have:id'=id:=by have:=(Jj hj).2;rw[aaB,h7]at this;exact fQ this
   subst this;exact h5 b (fi Sf)
  ·trivial
 |T5 f t x off =>
  obtain⟨b,o,c,hv,hb,dO,hr,hc⟩:=h;have ho':=hx.ro b hb dO.1;exact⟨b,o,c,hv,hb,⟨ho'.1,dO.2⟩,hx.rd hr,hc⟩
theorem acO {α β γ:Type}{R:α->β->Prop}{S:γ->β->Prop}(f:α->γ)(hf:∀a b,R a b->S (f a) b):∀{l:List α} {m:List β},cT R l m->cT S (l.map f) m
 |[],[],_=>trivial
 |a::l,b::m,h=>⟨hf _ _ h.1,acO f hf h.2⟩
 |[],_::_,h=>h.elim
 |_::_,[],h=>h.elim
theorem asq {bs env:List Nat}{bx:List (Nat×List AC)}(hbx:∀b,Yd bs b=true->(look bx b).isSome=true){c:CV}{v:Value}(h:fh G w st.bx st.bl c v) :
  fh (G.ren bs env) w bx (Uy st env 0 env) (aHJ env bs c) v:=by
 cases c with
 |c x=>exact aug hbx h
 |agg l =>
  obtain⟨cs,he,hl⟩:=h;exact⟨cs,he,acO (ajB env bs) (fun c v hc=>aug hbx hc) hl⟩
theorem asr {bs env:List Nat}{bx:List (Nat×List AC)}(hbx:∀b,Yd bs b=true->(look bx b).isSome=true){c:AV}{v:Value}(h:j2 G w st.bx st.bl c v) :
  j2 (G.ren bs env) w bx (Uy st env 0 env) (aHK env bs c) v:=by
 cases c with
 |v x=>exact asq hbx h
 |Ul l =>
  obtain⟨cs,he,hl⟩:=h;exact⟨cs,he,acO (aHJ env bs) (fun c v hc=>asq hbx hc) hl⟩
theorem az2 (h:Inv w0 G st a w)(tm:List (Nat×AV))(htm:∀x∈tm,x.2=st.get x.1)(bs env:List Nat)(hbs:∀b∈bs,(look st.bx b).isSome=true):Inv w0 (G.ren bs env) (aLm st tm bs env) a w:=by
 have hx:=aB6 G w bs env;have hbx:∀b,Yd bs b=true->(look (bs.map fun b=>(b,(azE st b).map (ajB env bs))) b).isSome=true:=fun b hb=>US (fun b=>(azE st b).map (ajB env bs)) (UL.1 hb)
 refine⟨h.nw,h.rok,h.below,h.defers,h.size,asr hbx h.sp,h.Fe hx,?_,?_,?_,?_⟩
 ·intro t v hv;obtain⟨x,h1,rfl⟩:=Xx (aHK env bs) hv;have Bq:∀{l:List (Nat×AV)} {n:Nat} {x:AV},look l n=some x->(n,x)∈l:=by
   intro l
   induction l with
   |nil=>intro n x h;simp[look]at h
   |cons z l ih =>
    intro n x h;rw[show z=(z.1,z.2) from rfl,aw]at h;by_cases hn:z.1=n
    ·simp only[hn,ig]at h;cases h;rw[<-hn];simp
    ·simp only[hn,gT]at h;simp[ih h]
  have h2:=htm _ (Bq h1);dsimp only at h2;subst h2;exact asr hbx (h.ev (.tmp t))
 ·intro d l hl;obtain⟨h1,rfl⟩:=asp (α:=Nat) (fun b=>(azE st b).map (ajB env bs)) hl;obtain⟨l0,hl0⟩:=mj.1 (hbs d h1);obtain⟨cs,e,h2,h3,h4⟩:=h.bx d l0 hl0;refine⟨cs,e,h2,?_,?_⟩
  ·show(G.ren bs env).own (G.hb d)=_;simp[Gh.ren,h3,UL.2 h1]
  ·have:azE st d=l0:=by simp[azE,hl0]
   rw[this];exact acO (ajB env bs) (fun c v hc=>aug hbx hc) h4
 ·intro n b hb;obtain⟨j,id,h1,h2,h3⟩:=aaT hb;obtain⟨h4,h5⟩:=h3 b rfl;rw[xf]at h1 h4;subst h1;have hbo:=h.bl id b (fi h5);refine⟨fun hw=>?_,fun hw=>?_,hbo.pos⟩
  ·obtain⟨cs,h6,h7,h8⟩:=hbo.wr hw;refine⟨cs,by rw[UT h4];exact h6,fun g hg=>?_,h8.mono hx⟩;rw[UT h4]at hg;have:=h7 g hg;simp[Gh.ren,this,h4]
  ·rw[UT h4];exact hx.rd (hbo.rd hw)
 ·intro g k hk;simp only[Gh.ren]at hk;cases ho:G.own g with
  |none=>rw[ho]at hk;cases hk
  |some k0 =>
   rw[ho]at hk;obtain⟨h1,h2,h3⟩:=h.own g k0 ho;cases k0 with
   |hid=>cases hk;exact⟨h1,h2,trivial⟩
   |bx d =>
    dsimp only at hk;split at hk
    ·cases hk;exact⟨h1,h2,hbx d (by assumption),h3.2⟩
    ·cases hk
   |bl id =>
    dsimp only at hk;split at hk
    ·rename_i i hi;cases hk;refine⟨h1,h2,?_,?_⟩
     ·have:=(Jj hi).2;have h4:i<env.length:=by rw[aaB]at this;exact(xV.1 this).1
      have h5:=Fi (st:=st) (env:=env) (l:=env) (i:=0) h4;rw[xf]at h5;exact h5
     ·rw[UT hi];exact h3.2
    ·cases hk
theorem Q8:∀{l:List AV} {b:Nat},b∈Ux l->∃off,AV.v (.c (.ptr b off))∈l
 |[],b,h=>by simp[Ux]at h
 |x::l,b,h=>by
  unfold Ux at h;split at h
  ·cases ‹_=[]›
  ·rename_i b' off l' he;cases he;split at h
   ·obtain⟨o,ho⟩:=Q8 h;exact⟨o,by simp[ho]⟩
   ·rcases gS.1 h with rfl|h
    ·exact⟨off,by simp⟩
    ·obtain⟨o,ho⟩:=Q8 h;exact⟨o,by simp[ho]⟩
  ·rename_i l' _ he;cases he;obtain⟨o,ho⟩:=Q8 h;exact⟨o,by simp[ho]⟩
theorem aaU (h:Inv w0 G st a w)(live:List Tmp):∃G',Inv w0 G' (keep live st) a w:=by
 refine⟨_,az2 h _ (fun x hx=>?_) _ _ (fun b hb=>?_)⟩
 ·obtain⟨t,_,rfl⟩:=Lt.1 hx;rfl
 ·obtain⟨off,ho⟩:=Q8 hb;rcases gS.1 ho with he|ho
  ·have:=h.sp;rw[<-he]at this;exact this.1
  obtain⟨x,hx,he⟩:=Lt.1 ho;obtain⟨t,_,rfl⟩:=Lt.1 hx;dsimp only at he;have:=h.ev (.tmp t);rw[show st.ev (.tmp t)=st.get t from rfl,he]at this;exact this.1
end
end Go.Am
