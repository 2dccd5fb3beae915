/- No condition. -/
import Derived.Test.YtpkabclplaibaaaGreatDoorQjAmCode
set_option linter.all false
namespace Go.Am
open Go.RowKit
variable [ec]
section
variable {N:Nat} {P:Program} {C:FuncId->Option Any} {w0:dU} {w:World} {G:Gh} {st:St} {a:Act}
def aoc (a:Act):ResultVar->Sem Value
 |.tmp t=>pure (a.tmps.getD t undef)|.cell b t=>do loadVar t (<-asAddr (a.tmps.getD b undef))
def awu (h:Inv w0 G st a w){r:ResultVar}{c:CV}(d:axO P st r=some c) :
  ∃u,dG G w st.bx st.bl c u/\(aoc a r).run P w=.ok u w:=by
 cases r with
 |tmp t =>
  cases d;exact⟨_,h.dB (.tmp t),rfl⟩
 |cell b t =>
  simp only[axO]at d;split at d
  .rename_i l off v;obtain⟨g,q,o,f,x,hrel⟩:=JQ h (h.ac (.tmp b)) v;have e:=(hrel.drop off).take (P.cellsOf t);have j:cQ w g (q+off) ((o.drop off).take (P.cellsOf t)):=x.drop.take;have hlen:=e.len;have f:a.tmps.getD b undef=.pointer (some ⟨g,q+off,none⟩):=f;split at d
   .rename_i z;have E:=aH z;split at d
    .rename_i k;cases d;have n:=uS (P:=P) j (by omega) (.inr trivial) k;obtain⟨i,A⟩:=uT k;simp only[A]at n;exact⟨_,⟨_,rfl,e⟩,by simp[aoc,f,asAddr,n]⟩
    .rename_i k;have n:=uS (P:=P) j (by omega) (.inr trivial) k;split at d
     .rename_i y B;cases d;rw[B]at e;obtain⟨u,D⟩:∃u,(o.drop off).take (P.cellsOf t)=[u]:=by
       cases p:(o.drop off).take (P.cellsOf t) with
       |nil=>rw[p]at e;exact e.elim
       |cons u m =>
        rw[p]at e;cases m with
        |nil=>exact⟨u,rfl⟩|cons _ _=>exact e.2.elim
      rw[D]at e j;have s:=j 0 u rfl;rw[VD]at s;exact⟨u,e.1,by simp[aoc,f,asAddr,n,s]⟩
     .cases d
    .cases d
   .cases d
  .cases d
def RN (h:Inv w0 G st a w){m:Func}{l:List CV}(e:Og P st m.results.toList=some l):∃us,bO (dG G w st.bx st.bl) l us/\(results m a.tmps).run P w=.ok (ed us) w:=by
 have key:∀(d:List ResultVar) (l:List CV),Og P st d=some l->∃us,bO (dG G w st.bx st.bl) l us /\
   ∀(f:ResultVar->Sem Value),(∀r,f r=aoc a r)->(d.mapM f).run P w=.ok us w:=by
  intro d
  induction d with
  |nil=>intro l h;cases h;exact⟨[],trivial,fun f _=>rfl⟩
  |cons x d n =>
   intro l b;simp only[Og]at b;split at b
   .rename_i c e;split at b
    .rename_i cs o;cases b;obtain⟨u,g,i⟩:=awu h e;obtain⟨us,p,q⟩:=n cs o;refine⟨u::us,⟨g,p⟩,fun f j=>?_⟩;rw[List.mapM_cons,j];simp only[Sem.run_bind,Sem.run_pure,Result.andThen_ok,i,q f j]
    .cases b
   .cases b
 obtain⟨us,g,i⟩:=key _ _ e;refine⟨us,g,?_⟩;unfold results;rw[Array.mapM_eq_mapM_toList];simp only[Sem.run_bind,Sem.run_map,Sem.run_pure];rw[i _ (fun r=>by cases r<;>rfl)];simp only[Result.andThen_ok]
 congr 1
 cases us with
 |nil=>rfl
 |cons v k =>
  cases k with
  |nil=>rfl|cons s k=>simp[ed]
def amn {m:Nat}(l:List AC):∀{seen:List Nat},fN st m seen l=true->∀c∈l,match c with
  |.own id _=>∃b,st.nO id=some b/\(m≠0->m≠3->b.f=true)|.ro f _ _ _=>m=1->f=true|_=>True:=by
 induction l with
 |nil=>intro _ _ c g;simp at g
 |cons x l i =>
  intro seen h c g;rcases dK.1 g with d|d
  .subst d;cases c with
   |own id len =>
    simp only[fN]at h;split at h
    .rename_i b k;simp only[aD,kl]at h;exact⟨b,k,fun j n=>(h.1.1.resolve_right fun e=>n (aH e)).resolve_right fun e=>j (aH e)⟩
    .cases h
   |ro f e t xs =>
    simp only[fN,aD]at h;intro j;subst j;exact h.1
   |_=>trivial
  .cases x with
   |own id len =>
    simp only[fN]at h;split at h
    .rename_i b k;simp only[aD]at h;exact i h.2 c d
    .cases h
   |ro f e t xs =>
    simp only[fN,aD]at h;exact i h.2 c d
   |_=>exact i (seen:=seen) h c d
def abE (h:Inv w0 G st a w){m:Nat}{rs:List (Ty×Bool)}{l:List CV}{us:List Value}(o:bO (dG G w st.bx st.bl) l us){r:Args rs}(cX:fN st m [] (aN l)=true)(p:Ax st rs l=some r){ok:Nat->Prop}
  (d:∀f g,(m≠0->f=true)->RO G f g->ok g) (q:∀g id,G.own g=some (.bl id)->ok g) (j:m=0\/m=1):dk w ok rs r us:=by
 refine au4 h rs l us r o (fun e t c v xs s x y=>?_) p;have k:=amn _ cX c s;refine iS h x y (fun id len b i n=>?_) (fun f e u H i=>?_)
 .subst i;obtain⟨I,z,A⟩:=k;have:=dj z;rw[n]at this;have:=eE (eE this);subst this;refine⟨fun g=>d b.f g fun d=>A d (by rcases j with rfl|rfl<;>simp),fun B g D=>?_⟩;obtain⟨cs,K,E,L⟩:=(h.bl id b n).wr B;exact q g id (E g D)
 .subst i;intro g;refine d f g fun F=>k (j.resolve_left F)
def amo:∀{l:List CV} {i t:Nat} {v:AV},look (apT i l) t=some v->∃b c,t=i+b/\kb l b=some c/\v=.v c
 |[],i,t,v,h=>by simp[apT,look]at h
 |c::l,i,t,v,h=>by
  simp only[apT]at h;rw[aq]at h;by_cases d:i=t
  .simp only[d,gg]at h;cases h;exact⟨0,c,by omega,rfl,rfl⟩
  .simp only[d,fz]at h;obtain⟨b,e,j,f,g⟩:=amo h;exact⟨b+1,e,by omega,f,g⟩
def aqh {ok:Nat->Prop}:∀{ps:List (Ty×Bool)} {x:Args ps} {vs:List Value},dk w ok ps x vs->vs.length=ps.length
 |[],_,vs,h=>by rw[show vs=[] from h];rfl
 |a::l,x,vs,h=>by obtain⟨v,c,rfl,_,b⟩:=h;simp[aqh b]
def gh0 (w:World)(ok:Nat->Prop):Gh:={nw:=fun b=>w.heap.size<=b,own:=fun _=>none,hb:=fun _=>0,hv:=fun _=>undef,ok:=ok}
def aBq (w:World)(ok:Nat->Prop)(hB:ec.n<=w.heap.size):dU:={w:=w,ok:=ok,nw:=fun b=>w.heap.size<=b,fr:=fun _=>False,hnw:=fun _ h=>h,hfr:=fun _ h=>h.elim,hB:=hB,hBf:=fun _ h=>h.elim}
def ata {G:Gh}{bx:List (Nat×List AC)}{bl:List (Nat×Option eC)}{cs:List CV}{vs:List Value}(hrel:bO (dG G w bx bl) cs vs){nt t:Nat}{v:AV}(e:look (apT 0 cs) t=some v) :
  gh G w bx bl v ((vs.toArray++Array.replicate (nt-vs.toArray.size) undef).getD t undef):=by
 obtain⟨h,c,b,f,rfl⟩:=amo e;rw[uP]at b;subst b;obtain⟨y,d,g⟩:=hrel.nth f;have hlt:t<vs.length:=(oQ.1 d).1;have:(vs.toArray++Array.replicate (nt-vs.toArray.size) undef).getD t undef=y:=by rw[Mp,Array.getElem?_append_left (by simpa using hlt)];simp[d]
 rw[this];exact g
def aEa {ok:Nat->Prop}{ps:List (Ty×Bool)}(e:dH ps=true){x:Args ps}{vs:List Value}(c:dk w ok ps x vs){nt:Nat}(q:ps.length<=nt)(f:ec.n<=w.heap.size) :
  Inv (aBq w ok f) (gh0 w ok) {nt:=nt,tm:=apT 0 (aCZ ps x),bx:=[],bl:=[]} {tmps:=vs.toArray++Array.replicate (nt-vs.toArray.size) undef,defers:=[]} w:=by
 have hlen:=aqh c;have h:dk w (RO (gh0 w ok) false) ps x vs:=en (fun g i=>⟨rfl,.inr ⟨rfl,i⟩⟩) c;have hrel:=BD (bx:=[]) (bl:=[]) e h;refine⟨rfl,rfl,dS.refl _ _,rfl,?_,trivial,fun g b r j=>(by cases j),?_,?_,?_,?_⟩
 .simp[hlen];omega
 .exact fun t v m=>ata hrel m
 .intro d l n;simp[look]at n
 .intro id b o;simp[look]at o
 .intro g k p;simp[gh0]at p
def aod {T : Tab} (F : ∀ f con, C f = some con → EY P T f con) {f : FuncId} {k : Func} {con : Con} (n : P.funcs[f]? = some k) (u : (k.name == "runtime.NumGoroutine") = false) (v : k.body.isNone = false)
  (H:Nat->Option Hint) (I:∀x r,con.g x=some r->∃N,aBW P C (nP.JE N) H k con.ps con.rs con.m x=some r):ag8 P T f con:=by
 refine⟨⟨k,n,u,v⟩,fun x r d w z K ok qb L=>?_⟩;obtain⟨N,q⟩:=I x r d;obtain⟨s,q⟩:=aQ q;simp only[aD]at s;obtain⟨c,A⟩:∃c,k.body=some c:=by
  cases h:k.body with
  |none=>rw[h]at v;cases v|some c=>exact⟨c,rfl⟩
 have M:cr k=c:=by simp[cr,A]
 rw[M]at q;refine calls_of_wp n A (pN (w0:=aBq w ok z) (fun f con n=>(F f con n).at K fun _ h=>h.elim) H (fun e _=>⟨fun _=>rfl,fun b cur qd _ u O=>absurd (rG.1 O).1 (Nat.not_lt.2 u)⟩) c ((aEa s.1.1.2 L (Ay s.1.1.1) z).asL (agT H)) q fun e t b9 Q o i j=>?_);have post:∀e,e=Exit.normal\/e=Exit.ret->(match Og P b9 k.results.toList with
   |some l=>match fN b9 con.m [] (aN l)&&(match con.m with|2=>vu b9 con.rs l|_=>true) with
    |true=>Ax b9 con.rs l|false=>none
   |none=>none)=some r->bodyPost P k (fun e o=>∃us,e=.returned (ed us)/\VI ok w o con r us/\Below w.heap.size w o) e Q o:=by
  intro e R j;split at j
  .rename_i l S;split at j
   .rename_i cX;rw[aD]at cX;obtain⟨us,y,B⟩:=RN (P:=P) i S;have W:t.nw=fun b=>w.heap.size<=b:=i.nw
    have X:t.ok=ok:=i.Y3;have p:∀g,t.nw g->w.heap.size<=g:=fun g d=>by rw[W]at d;exact d
    have D:∃E,Ending.returned (ed us)=.returned (ed E)/\VI ok w o con r E/\Below w.heap.size w o:=by
     refine⟨_,rfl,?_,i.below.below fun _ h=>h⟩;unfold VI;split
     .rename_i m;rw[m]at cX;exact abE i y cX.1 j (fun f g _ d=>d.2.elim (fun h=>.inl (p g h)) fun h=>.inr (by rw[<-X];exact h.2)) (fun g id d=>.inl (p g (i.Rx d))) (.inl rfl)
     .rename_i m;rw[m]at cX;exact abE i y cX.1 j (fun f g n d=>d.2.elim (p g) fun h=>by rw[n (by simp)]at h;cases h.1) (fun g id d=>p g (i.Rx d)) (.inr rfl)
     .rename_i Y Z;by_cases m:con.m=2
      .rw[m]at cX;refine⟨bR t (aN l),fun g qa d=>?_,?_⟩
       .unfold bR at d;split at d
        .rename_i id hid;exact p g (i.Rx hid)
        .cases d
       .exact(F5 (.inl rfl) (fun g d=>⟨d.2.elim (p g) (fun h=>by have:=h.1;simp[m2]at this),by simp[bR,d.1]⟩) i (aN l) [] con.rs l us r y (pre:=[]) (seen:=[]) (by simp) (fun id len m=>by simp at m) (by rw[gO];exact cX.1) cX.2 j).1
      .have:=Ay s.2;have qe:con.m≠0:=Y;have qf:con.m≠1:=Z;omega
    rcases R with rfl|rfl
    .exact bodyPost_end B i.defers D
    .exact bodyPost_ret B i.defers D
   .cases j
  .cases j
 cases e with
 |norm=>exact post .normal (.inl rfl) j|ret=>exact post .ret (.inr rfl) j|exit qa=>cases j
end
end Go.Am
