/- No condition. -/
import Derived.Test.YtpkabclplaibaaaGreatDoorQhAmCode
set_option linter.all false
namespace Go.Am
open Go.RowKit
variable [ds]
section
variable {N:Nat} {P:Program} {C:FuncId->Option Any} {w0:di} {w:World} {G:Gh} {st:St} {a:Act}
def acK (a:Act):ResultVar->Sem Value
 |.tmp t=>pure (a.tmps.getD t undef)|.cell b t=>do loadVar t (<-asAddr (a.tmps.getD b undef))
def aks (h:Inv w0 G st a w){r:ResultVar}{c:CV}(d:alw P st r=some c) :
  ∃u,da G w st.bx st.bl c u/\(acK a r).run P w=.ok u w:=by
 cases r with
 |tmp t =>
  cases d;exact⟨_,h.c6 (.tmp t),rfl⟩
 |cell b t =>
  simp only[alw]at d;split at d
  .rename_i l off v;obtain⟨g,q,o,f,x,hrel⟩:=C5 h (h.ac (.tmp b)) v;have e:=(hrel.drop off).take (P.cellsOf t);have j:cA w g (q+off) ((o.drop off).take (P.cellsOf t)):=x.drop.take;have hlen:=e.len;have f:a.tmps.getD b undef=.pointer (some ⟨g,q+off,none⟩):=f;split at d
   .rename_i z;have E:=aA z;split at d
    .rename_i k;cases d;have n:=pI (P:=P) j (by omega) (.inr trivial) k;obtain⟨i,A⟩:=pJ k;simp only[A]at n;exact⟨_,⟨_,rfl,e⟩,by simp[acK,f,asAddr,n]⟩
    .rename_i k;have n:=pI (P:=P) j (by omega) (.inr trivial) k;split at d
     .rename_i y B;cases d;rw[B]at e;obtain⟨u,D⟩:∃u,(o.drop off).take (P.cellsOf t)=[u]:=by
       cases p:(o.drop off).take (P.cellsOf t) with
       |nil=>rw[p]at e;exact e.elim
       |cons u m =>
        rw[p]at e;cases m with
        |nil=>exact⟨u,rfl⟩|cons _ _=>exact e.2.elim
      rw[D]at e j;have s:=j 0 u rfl;rw[Mz]at s;exact⟨u,e.1,by simp[acK,f,asAddr,n,s]⟩
     .cases d
    .cases d
   .cases d
  .cases d
def JA (h:Inv w0 G st a w){m:Func}{l:List CV}(e:GI P st m.results.toList=some l):∃us,bD (da G w st.bx st.bl) l us/\(results m a.tmps).run P w=.ok (dj us) w:=by
 have key:∀(d:List ResultVar) (l:List CV),GI P st d=some l->∃us,bD (da G w st.bx st.bl) l us /\
   ∀(f:ResultVar->Sem Value),(∀r,f r=acK a r)->(d.mapM f).run P w=.ok us w:=by
  intro d
  induction d with
  |nil=>intro l h;cases h;exact⟨[],trivial,fun f _=>rfl⟩
  |cons x d n =>
   intro l b;simp only[GI]at b;split at b
   .rename_i c e;split at b
    .rename_i cs o;cases b;obtain⟨u,g,i⟩:=aks h e;obtain⟨us,p,q⟩:=n cs o;refine⟨u::us,⟨g,p⟩,fun f j=>?_⟩;rw[List.mapM_cons,j];simp only[Sem.run_bind,Sem.run_pure,Result.andThen_ok,i,q f j]
    .cases b
   .cases b
 obtain⟨us,g,i⟩:=key _ _ e;refine⟨us,g,?_⟩;unfold results;rw[Array.mapM_eq_mapM_toList];simp only[Sem.run_bind,Sem.run_map,Sem.run_pure];rw[i _ (fun r=>by cases r<;>rfl)];simp only[Result.andThen_ok]
 congr 1
 cases us with
 |nil=>rfl
 |cons v k =>
  cases k with
  |nil=>rfl|cons s k=>simp[dj]
def aa4 {m:Nat}(l:List AC):∀{seen:List Nat},eA st m seen l=true->∀c∈l,match c with
  |.own id _=>∃b,st.kA id=some b/\(m≠0->m≠3->b.f=true)|.ro f _ _ _=>m=1->f=true|_=>True:=by
 induction l with
 |nil=>intro _ _ c g;simp at g
 |cons x l i =>
  intro seen h c g;rcases c7.1 g with d|d
  .subst d;cases c with
   |own id len =>
    simp only[eA]at h;split at h
    .rename_i b k;simp only[az,hh]at h;exact⟨b,k,fun j n=>(h.1.1.resolve_right fun e=>n (aA e)).resolve_right fun e=>j (aA e)⟩
    .cases h
   |ro f e t xs =>
    simp only[eA,az]at h;intro j;subst j;exact h.1
   |_=>trivial
  .cases x with
   |own id len =>
    simp only[eA]at h;split at h
    .rename_i b k;simp only[az]at h;exact i h.2 c d
    .cases h
   |ro f e t xs =>
    simp only[eA,az]at h;exact i h.2 c d
   |_=>exact i (seen:=seen) h c d
def RJ (h:Inv w0 G st a w){m:Nat}{rs:List (Ty×Bool)}{l:List CV}{us:List Value}(o:bD (da G w st.bx st.bl) l us){r:Args rs}(cR:eA st m [] (aF l)=true)(p:tT st rs l=some r){ok:Nat->Prop}
  (d:∀f g,(m≠0->f=true)->RO G f g->ok g) (q:∀g id,G.own g=some (.bl id)->ok g) (j:m=0\/m=1):cT w ok rs r us:=by
 refine ai1 h rs l us r o (fun e t c v xs s x y=>?_) p;have k:=aa4 _ cR c s;refine gi h x y (fun id len b i n=>?_) (fun f e u H i=>?_)
 .subst i;obtain⟨I,z,A⟩:=k;have:=cV z;rw[n]at this;have:=dI (dI this);subst this;refine⟨fun g=>d b.f g fun d=>A d (by rcases j with rfl|rfl<;>simp),fun B g D=>?_⟩;obtain⟨cs,K,E,L⟩:=(h.bl id b n).wr B;exact q g id (E g D)
 .subst i;intro g;refine d f g fun F=>k (j.resolve_left F)
def aa5:∀{l:List CV} {i t:Nat} {v:AV},look (aeh i l) t=some v->∃b c,t=i+b/\gU l b=some c/\v=.v c
 |[],i,t,v,h=>by simp[aeh,look]at h
 |c::l,i,t,v,h=>by
  simp only[aeh]at h;rw[ai]at h;by_cases d:i=t
  .simp only[d,eJ]at h;cases h;exact⟨0,c,by omega,rfl,rfl⟩
  .simp only[d,eo]at h;obtain⟨b,e,j,f,g⟩:=aa5 h;exact⟨b+1,e,by omega,f,g⟩
def aeF {ok:Nat->Prop}:∀{ps:List (Ty×Bool)} {x:Args ps} {vs:List Value},cT w ok ps x vs->vs.length=ps.length
 |[],_,vs,h=>by rw[show vs=[] from h];rfl
 |a::l,x,vs,h=>by obtain⟨v,c,rfl,_,b⟩:=h;simp[aeF b]
def gh0 (w:World)(ok:Nat->Prop):Gh:={nw:=fun b=>w.heap.size<=b,own:=fun _=>none,hb:=fun _=>0,hv:=fun _=>undef,ok:=ok}
def ao5 (w:World)(ok:Nat->Prop)(hB:ds.n<=w.heap.size):di:={w:=w,ok:=ok,nw:=fun b=>w.heap.size<=b,fr:=fun _=>False,Rz:=fun _ h=>h,Ud:=fun _ h=>h.elim,hB:=hB,hBf:=fun _ h=>h.elim}
def ahl {G:Gh}{bx:List (Nat×List AC)}{bl:List (Nat×Option dD)}{cs:List CV}{vs:List Value}(hrel:bD (da G w bx bl) cs vs){nt t:Nat}{v:AV}(e:look (aeh 0 cs) t=some v) :
  eK G w bx bl v ((vs.toArray++Array.replicate (nt-vs.toArray.size) undef).getD t undef):=by
 obtain⟨h,c,b,f,rfl⟩:=aa5 e;rw[pF]at b;subst b;obtain⟨y,d,g⟩:=hrel.nth f;have hlt:t<vs.length:=(lu.1 d).1;have:(vs.toArray++Array.replicate (nt-vs.toArray.size) undef).getD t undef=y:=by rw[E8,Array.getElem?_append_left (by simpa using hlt)];simp[d]
 rw[this];exact g
def arX {ok:Nat->Prop}{ps:List (Ty×Bool)}(e:db ps=true){x:Args ps}{vs:List Value}(c:cT w ok ps x vs){nt:Nat}(q:ps.length<=nt)(f:ds.n<=w.heap.size) :
  Inv (ao5 w ok f) (gh0 w ok) {nt:=nt,tm:=aeh 0 (aqI ps x),bx:=[],bl:=[]} {tmps:=vs.toArray++Array.replicate (nt-vs.toArray.size) undef,defers:=[]} w:=by
 have hlen:=aeF c;have h:cT w (RO (gh0 w ok) false) ps x vs:=dy (fun g i=>⟨rfl,.inr ⟨rfl,i⟩⟩) c;have hrel:=u3 (bx:=[]) (bl:=[]) e h;refine⟨rfl,rfl,dh.refl _ _,rfl,?_,trivial,fun g b r j=>(by cases j),?_,?_,?_,?_⟩
 .simp[hlen];omega
 .exact fun t v m=>ahl hrel m
 .intro d l n;simp[look]at n
 .intro id b o;simp[look]at o
 .intro g k p;simp[gh0]at p
def acL {T : ZI} (F : ∀ f con, C f = some con → wi P T f con) {f : FuncId} {k : Func} {con : Con} (n : P.funcs[f]? = some k) (u : (k.name == "runtime.NumGoroutine") = false) (v : k.body.isNone = false)
  (H:Nat->Option Hint) (I:∀x r,con.g x=some r->∃N,apD P C (kk.CX N) H k con.ps con.rs con.m x=some r):Wz P T f con:=by
 refine⟨⟨k,n,u,v⟩,fun x r d w z K ok qb L=>?_⟩;obtain⟨N,q⟩:=I x r d;obtain⟨s,q⟩:=aG q;simp only[az]at s;obtain⟨c,A⟩:∃c,k.body=some c:=by
  cases h:k.body with
  |none=>rw[h]at v;cases v|some c=>exact⟨c,rfl⟩
 have M:ia k=c:=by simp[ia,A]
 rw[M]at q;refine calls_of_wp n A (l7 (w0:=ao5 w ok z) (fun f con n=>(F f con n).at K fun _ h=>h.elim) H (fun e _=>⟨fun _=>rfl,fun b cur qd _ u O=>absurd (nj.1 O).1 (Nat.not_lt.2 u)⟩) c ((arX s.1.1.2 L (tU s.1.1.1) z).agW (Wj H)) q fun e t bV Q o i j=>?_);have post:∀e,e=Exit.normal\/e=Exit.ret->(match GI P bV k.results.toList with
   |some l=>match eA bV con.m [] (aF l)&&(match con.m with|2=>q0 bV con.rs l|_=>true) with
    |true=>tT bV con.rs l|false=>none
   |none=>none)=some r->bodyPost P k (fun e o=>∃us,e=.returned (dj us)/\Jq ok w o con r us/\Below w.heap.size w o) e Q o:=by
  intro e R j;split at j
  .rename_i l S;split at j
   .rename_i cR;rw[az]at cR;obtain⟨us,y,B⟩:=JA (P:=P) i S;have W:t.nw=fun b=>w.heap.size<=b:=i.nw
    have X:t.ok=ok:=i.Pt;have p:∀g,t.nw g->w.heap.size<=g:=fun g d=>by rw[W]at d;exact d
    have D:∃E,Ending.returned (dj us)=.returned (dj E)/\Jq ok w o con r E/\Below w.heap.size w o:=by
     refine⟨_,rfl,?_,i.below.below fun _ h=>h⟩;unfold Jq;split
     .rename_i m;rw[m]at cR;exact RJ i y cR.1 j (fun f g _ d=>d.2.elim (fun h=>.inl (p g h)) fun h=>.inr (by rw[<-X];exact h.2)) (fun g id d=>.inl (p g (i.Jk d))) (.inl rfl)
     .rename_i m;rw[m]at cR;exact RJ i y cR.1 j (fun f g n d=>d.2.elim (p g) fun h=>by rw[n (by simp)]at h;cases h.1) (fun g id d=>p g (i.Jk d)) (.inr rfl)
     .rename_i Y Z;by_cases m:con.m=2
      .rw[m]at cR;refine⟨bG t (aF l),fun g qa d=>?_,?_⟩
       .unfold bG at d;split at d
        .rename_i id hid;exact p g (i.Jk hid)
        .cases d
       .exact(Ag (.inl rfl) (fun g d=>⟨d.2.elim (p g) (fun h=>by have:=h.1;simp[m2]at this),by simp[bG,d.1]⟩) i (aF l) [] con.rs l us r y (pre:=[]) (seen:=[]) (by simp) (fun id len m=>by simp at m) (by rw[fo];exact cR.1) cR.2 j).1
      .have:=tU s.2;have qe:con.m≠0:=Y;have qf:con.m≠1:=Z;omega
    rcases R with rfl|rfl
    .exact bodyPost_end B i.defers D
    .exact bodyPost_ret B i.defers D
   .cases j
  .cases j
 cases e with
 |norm=>exact post .normal (.inl rfl) j|ret=>exact post .ret (.inr rfl) j|exit qa=>cases j
end
end Go.Am
