/- No condition. -/
import Derived.Test.YtaheoongenkdbaaGreatDoorQsAmCode
set_option linter.all false
namespace Go.Am
open Go.RowKit
section
variable {N:Nat} {P:Program} {C:FuncId->Option Any} {w0:eA} {w:World} {G:Gh} {st:St} {a:Act}
def arq (a:Act):ResultVar->Sem Value
 |.tmp t=>pure (a.tmps.getD t undef)|.cell b t=>do loadVar t (<-asAddr (a.tmps.getD b undef))
def azC (h:Inv w0 G st a w){r:ResultVar}{c:CV}(d:aAL P st r=some c) :
  ∃u,ei G w st.bx st.bl c u/\(arq a r).run P w=.ok u w:=by
 cases r with
 |tmp t =>
  cases d;exact⟨_,h.dO (.tmp t),rfl⟩
 |cell b t =>
  simp only[aAL]at d;split at d
  .rename_i l off v;obtain⟨g,q,o,f,x,hrel⟩:=Kb h (h.ac (.tmp b)) v;have e:=(hrel.drop off).take (P.cellsOf t);have j:cW w g (q+off) ((o.drop off).take (P.cellsOf t)):=x.drop.take;have hlen:=e.len;have f:a.tmps.getD b undef=.pointer (some ⟨g,q+off,none⟩):=f;split at d
   .rename_i z;have E:=aI z;split at d
    .rename_i k;cases d;have n:=vj (P:=P) j (by omega) (.inr trivial) k;obtain⟨i,A⟩:=vk k;simp only[A]at n;exact⟨_,⟨_,rfl,e⟩,by simp[arq,f,asAddr,n]⟩
    .rename_i k;have n:=vj (P:=P) j (by omega) (.inr trivial) k;split at d
     .rename_i y B;cases d;rw[B]at e;obtain⟨u,D⟩:∃u,(o.drop off).take (P.cellsOf t)=[u]:=by
       cases p:(o.drop off).take (P.cellsOf t) with
       |nil=>rw[p]at e;exact e.elim
       |cons u m =>
        rw[p]at e;cases m with
        |nil=>exact⟨u,rfl⟩|cons _ _=>exact e.2.elim
      rw[D]at e j;have s:=j 0 u rfl;rw[WW]at s;exact⟨u,e.1,by simp[arq,f,asAddr,n,s]⟩
     .cases d
    .cases d
   .cases d
  .cases d
def Ti (h:Inv w0 G st a w){m:Func}{l:List CV}(e:PA P st m.results.toList=some l):∃us,b6 (ei G w st.bx st.bl) l us/\(results m a.tmps).run P w=.ok (eQ us) w:=by
 have key:∀(d:List ResultVar) (l:List CV),PA P st d=some l->∃us,b6 (ei G w st.bx st.bl) l us /\
   ∀(f:ResultVar->Sem Value),(∀r,f r=arq a r)->(d.mapM f).run P w=.ok us w:=by
  intro d
  induction d with
  |nil=>intro l h;cases h;exact⟨[],trivial,fun f _=>rfl⟩
  |cons x d n =>
   intro l b;simp only[PA]at b;split at b
   .rename_i c e;split at b
    .rename_i cs o;cases b;obtain⟨u,g,i⟩:=azC h e;obtain⟨us,p,q⟩:=n cs o;refine⟨u::us,⟨g,p⟩,fun f j=>?_⟩;rw[List.mapM_cons,j];simp only[Sem.run_bind,Sem.run_pure,Result.andThen_ok,i,q f j]
    .cases b
   .cases b
 obtain⟨us,g,i⟩:=key _ _ e;refine⟨us,g,?_⟩;unfold results;rw[Array.mapM_eq_mapM_toList];simp only[Sem.run_bind,Sem.run_map,Sem.run_pure];rw[i _ (fun r=>by cases r<;>rfl)];simp only[Result.andThen_ok]
 congr 1
 cases us with
 |nil=>rfl
 |cons v k =>
  cases k with
  |nil=>rfl|cons s k=>simp[eQ]
def apA {m:Nat}(l:List AC):∀{seen:List Nat},fT st m seen l=true->∀c∈l,match c with
  |.own id _=>∃b,st.nS id=some b/\(m≠0->m≠3->b.f=true)|.ro f _ _ _=>m=1->f=true|_=>True:=by
 induction l with
 |nil=>intro _ _ c g;simp at g
 |cons x l i =>
  intro seen h c g;rcases fe.1 g with d|d
  .subst d;cases c with
   |own id len =>
    simp only[fT]at h;split at h
    .rename_i b k;simp only[aD,ju]at h;exact⟨b,k,fun j n=>(h.1.1.resolve_right fun e=>n (aI e)).resolve_right fun e=>j (aI e)⟩
    .cases h
   |ro f e t xs =>
    simp only[fT,aD]at h;intro j;subst j;exact h.1
   |_=>trivial
  .cases x with
   |own id len =>
    simp only[fT]at h;split at h
    .rename_i b k;simp only[aD]at h;exact i h.2 c d
    .cases h
   |ro f e t xs =>
    simp only[fT,aD]at h;exact i h.2 c d
   |_=>exact i (seen:=seen) h c d
def adu (h:Inv w0 G st a w){m:Nat}{rs:List (Ty×Bool)}{l:List CV}{us:List Value}(o:b6 (ei G w st.bx st.bl) l us){r:Args rs}(cU:fT st m [] (aN l)=true)(hi:AL st rs l=some r){ok:Nat->Prop}
  (d:∀f g,(m≠0->f=true)->RO G f g->ok g) (p:∀g id,G.own g=some (.bl id)->ok g) (j:m=0\/m=1):dP w ok rs r us:=by
 refine ax5 h rs l us r o (fun t c v xs q s x=>?_) hi;have k:=apA _ cU c q;refine iV h s x (fun id len b i n=>?_) (fun f e u F i=>?_)
 .subst i;obtain⟨H,y,z⟩:=k;have:=dx y;rw[n]at this;have:=eO (eO this);subst this;refine⟨fun g=>d b.f g fun d=>z d (by rcases j with rfl|rfl<;>simp),fun A g B=>?_⟩;obtain⟨cs,I,D,K⟩:=(h.bl id b n).wr A;exact p g id (D g B)
 .subst i;intro g;refine d f g fun E=>k (j.resolve_left E)
def apB:∀{l:List CV} {i t:Nat} {v:AV},look (atk i l) t=some v->∃b c,t=i+b/\l1 l b=some c/\v=.v c
 |[],i,t,v,h=>by simp[atk,look]at h
 |c::l,i,t,v,h=>by
  simp only[atk]at h;rw[ar]at h;by_cases d:i=t
  .simp only[d,fE]at h;cases h;exact⟨0,c,by omega,rfl,rfl⟩
  .simp only[d,fD]at h;obtain⟨b,e,j,f,g⟩:=apB h;exact⟨b+1,e,by omega,f,g⟩
def atJ {ok:Nat->Prop}:∀{ps:List (Ty×Bool)} {x:Args ps} {vs:List Value},dP w ok ps x vs->vs.length=ps.length
 |[],_,vs,h=>by rw[show vs=[] from h];rfl
 |a::l,x,vs,h=>by obtain⟨v,c,rfl,_,b⟩:=h;simp[atJ b]
def gh0 (w:World)(ok:Nat->Prop):Gh:={nw:=fun b=>w.heap.size<=b,own:=fun _=>none,hb:=fun _=>0,hv:=fun _=>undef,ok:=ok}
def aDT (w:World)(ok:Nat->Prop):eA:={w:=w,ok:=ok,nw:=fun b=>w.heap.size<=b,fr:=fun _=>False,hnw:=fun _ h=>h,hfr:=fun _ h=>h.elim}
def awo {G:Gh}{bx:List (Nat×List AC)}{bl:List (Nat×Option fa)}{cs:List CV}{vs:List Value}(hrel:b6 (ei G w bx bl) cs vs){nt t:Nat}{v:AV}(e:look (atk 0 cs) t=some v) :
  hI G w bx bl v ((vs.toArray++Array.replicate (nt-vs.toArray.size) undef).getD t undef):=by
 obtain⟨h,c,b,f,rfl⟩:=apB e;rw[vd]at b;subst b;obtain⟨y,d,g⟩:=hrel.nth f;have hlt:t<vs.length:=(u9.1 d).1;have:(vs.toArray++Array.replicate (nt-vs.toArray.size) undef).getD t undef=y:=by rw[Nb,Array.getElem?_append_left (by simpa using hlt)];simp[d]
 rw[this];exact g
def aGb {ok:Nat->Prop}{ps:List (Ty×Bool)}(e:eh ps=true){x:Args ps}{vs:List Value}(c:dP w ok ps x vs){nt:Nat}(p:ps.length<=nt) :
  Inv (aDT w ok) (gh0 w ok) {nt:=nt,tm:=atk 0 (aE7 ps x),bx:=[],bl:=[]} {tmps:=vs.toArray++Array.replicate (nt-vs.toArray.size) undef,defers:=[]} w:=by
 have hlen:=atJ c;have f:dP w (RO (gh0 w ok) false) ps x vs:=iW (fun g h=>⟨rfl,.inr ⟨rfl,h⟩⟩) c;have hrel:=BQ (bx:=[]) (bl:=[]) e f;refine⟨rfl,rfl,ez.refl _ _,rfl,?_,trivial,fun g b q i=>(by cases i),?_,?_,?_,?_⟩
 .simp[hlen];omega
 .exact fun t v j=>awo hrel j
 .intro d l m;simp[look]at m
 .intro id b n;simp[look]at n
 .intro g k o;simp[gh0]at o
def ars {T : Tab} (D : ∀ f con, C f = some con → rO P T f con) {f : FuncId} {k : Func} {con : Con} (n : P.funcs[f]? = some k) (E : (k.name == "runtime.NumGoroutine") = false) (u : k.body.isNone = false)
  (H:Nat->Option Hint) (F:∀x r,con.g x=some r->∃N,aEb P C (nT.J9 N) H k con.ps con.rs con.m x=some r):apm P T f con:=by
 refine⟨⟨k,n,E,u⟩,fun x r d w I ok Z K=>?_⟩;obtain⟨N,q⟩:=F x r d;obtain⟨s,q⟩:=aR q;simp only[aD]at s;obtain⟨c,y⟩:∃c,k.body=some c:=by
  cases h:k.body with
  |none=>rw[h]at u;cases u|some c=>exact⟨c,rfl⟩
 have L:iu k=c:=by simp[iu,y]
 rw[L]at q;refine calls_of_wp n y (pG (w0:=aDT w ok) (fun f con n=>(D f con n).at I fun _ h=>h.elim) H c ((aGb s.1.1.2 K (Ep s.1.1.1)).av3 (apf H)) q fun e t cA M o i j=>?_);have post:∀e,e=Exit.normal\/e=Exit.ret->(match PA P cA k.results.toList with
   |some l=>match fT cA con.m [] (aN l)&&(match con.m with|2=>vT cA con.rs l|_=>true) with
    |true=>AL cA con.rs l|false=>none
   |none=>none)=some r->bodyPost P k (fun e o=>∃us,e=.returned (eQ us)/\WZ ok w o con r us/\Below w.heap.size w o) e M o:=by
  intro e O j;split at j
  .rename_i l Q;split at j
   .rename_i cU;rw[aD]at cU;obtain⟨us,v,z⟩:=Ti (P:=P) i Q;have R:t.nw=fun b=>w.heap.size<=b:=i.nw
    have S:t.ok=ok:=i.rok;have p:∀g,t.nw g->w.heap.size<=g:=fun g d=>by rw[R]at d;exact d
    have A:∃B,Ending.returned (eQ us)=.returned (eQ B)/\WZ ok w o con r B/\Below w.heap.size w o:=by
     refine⟨_,rfl,?_,i.below.below fun _ h=>h⟩;unfold WZ;split
     .rename_i m;rw[m]at cU;exact adu i v cU.1 j (fun f g _ d=>d.2.elim (fun h=>.inl (p g h)) fun h=>.inr (by rw[<-S];exact h.2)) (fun g id d=>.inl (p g (i.S1 d))) (.inl rfl)
     .rename_i m;rw[m]at cU;exact adu i v cU.1 j (fun f g n d=>d.2.elim (p g) fun h=>by rw[n (by simp)]at h;cases h.1) (fun g id d=>p g (i.S1 d)) (.inr rfl)
     .rename_i W X;by_cases m:con.m=2
      .rw[m]at cU;refine⟨b7 t (aN l),fun g Y d=>?_,?_⟩
       .unfold b7 at d;split at d
        .rename_i id hid;exact p g (i.S1 hid)
        .cases d
       .exact(F8 (.inl rfl) (fun g d=>⟨d.2.elim (p g) (fun h=>by have:=h.1;simp[m2]at this),by simp[b7,d.1]⟩) i (aN l) [] con.rs l us r v (pre:=[]) (seen:=[]) (by simp) (fun id len m=>by simp at m) (by rw[fS];exact cU.1) cU.2 j).1
      .have:=Ep s.2;have qa:con.m≠0:=W;have qb:con.m≠1:=X;omega
    rcases O with rfl|rfl
    .exact bodyPost_end z i.defers A
    .exact bodyPost_ret z i.defers A
   .cases j
  .cases j
 cases e with
 |norm=>exact post .normal (.inl rfl) j|ret=>exact post .ret (.inr rfl) j|exit Y=>cases j
end
end Go.Am
