/- No condition. -/
import Derived.Test.YtpkabclplaibaaaGreatDoorQwAmCode
set_option linter.all false
namespace Go.Am
open Go.RowKit
variable [ei]
section
variable {N:Nat} {P:Program} {C:FuncId->Option Any} {w0:dY} {w:World} {G:Gh} {st:St} {a:Act}
def ars (a:Act):ResultVar->Sem Value
 |.tmp t=>pure (a.tmps.getD t undef)|.cell b t=>do loadVar t (<-asAddr (a.tmps.getD b undef))
def az5 (h:Inv w0 G st a w){r:ResultVar}{c:CV}(d:aBr P st r=some c) :
  ∃u,dL G w st.bx st.bl c u/\(ars a r).run P w=.ok u w:=by
 cases r with
 |tmp t =>
  cases d;exact⟨_,h.dB (.tmp t),rfl⟩
 |cell b t =>
  simp only[aBr]at d;split at d
  .rename_i l off v;obtain⟨g,q,o,f,x,hrel⟩:=Ly h (h.ac (.tmp b)) v;have e:=(hrel.drop off).take (P.cellsOf t);have j:cX w g (q+off) ((o.drop off).take (P.cellsOf t)):=x.drop.take;have hlen:=e.len;have f:a.tmps.getD b undef=.pointer (some ⟨g,q+off,none⟩):=f;split at d
   .rename_i z;have E:=aK z;split at d
    .rename_i k;cases d;have n:=vV (P:=P) j (by omega) (.inr trivial) k;obtain⟨i,A⟩:=vW k;simp only[A]at n;exact⟨_,⟨_,rfl,e⟩,by simp[ars,f,asAddr,n]⟩
    .rename_i k;have n:=vV (P:=P) j (by omega) (.inr trivial) k;split at d
     .rename_i y B;cases d;rw[B]at e;obtain⟨u,D⟩:∃u,(o.drop off).take (P.cellsOf t)=[u]:=by
       cases p:(o.drop off).take (P.cellsOf t) with
       |nil=>rw[p]at e;exact e.elim
       |cons u m =>
        rw[p]at e;cases m with
        |nil=>exact⟨u,rfl⟩|cons _ _=>exact e.2.elim
      rw[D]at e j;have s:=j 0 u rfl;rw[XR]at s;exact⟨u,e.1,by simp[ars,f,asAddr,n,s]⟩
     .cases d
    .cases d
   .cases d
  .cases d
def TX (h:Inv w0 G st a w){m:Func}{l:List CV}(e:Qh P st m.results.toList=some l):∃us,bY (dL G w st.bx st.bl) l us/\(results m a.tmps).run P w=.ok (ej us) w:=by
 have key:∀(d:List ResultVar) (l:List CV),Qh P st d=some l->∃us,bY (dL G w st.bx st.bl) l us /\
   ∀(f:ResultVar->Sem Value),(∀r,f r=ars a r)->(d.mapM f).run P w=.ok us w:=by
  intro d
  induction d with
  |nil=>intro l h;cases h;exact⟨[],trivial,fun f _=>rfl⟩
  |cons x d n =>
   intro l b;simp only[Qh]at b;split at b
   .rename_i c e;split at b
    .rename_i cs o;cases b;obtain⟨u,g,i⟩:=az5 h e;obtain⟨us,p,q⟩:=n cs o;refine⟨u::us,⟨g,p⟩,fun f j=>?_⟩;rw[List.mapM_cons,j];simp only[Sem.run_bind,Sem.run_pure,Result.andThen_ok,i,q f j]
    .cases b
   .cases b
 obtain⟨us,g,i⟩:=key _ _ e;refine⟨us,g,?_⟩;unfold results;rw[Array.mapM_eq_mapM_toList];simp only[Sem.run_bind,Sem.run_map,Sem.run_pure];rw[i _ (fun r=>by cases r<;>rfl)];simp only[Result.andThen_ok]
 congr 1
 cases us with
 |nil=>rfl
 |cons v k =>
  cases k with
  |nil=>rfl|cons s k=>simp[ej]
def apv {m:Nat}(l:List AC):∀{seen:List Nat},fU st m seen l=true->∀c∈l,match c with
  |.own id _=>∃b,st.oi id=some b/\(m≠0->m≠3->b.f=true)|.ro f _ _ _=>m=1->f=true|_=>True:=by
 induction l with
 |nil=>intro _ _ c g;simp at g
 |cons x l i =>
  intro seen h c g;rcases cK.1 g with d|d
  .subst d;cases c with
   |own id len =>
    simp only[fU]at h;split at h
    .rename_i b k;simp only[aE,jH]at h;exact⟨b,k,fun j n=>(h.1.1.resolve_right fun e=>n (aK e)).resolve_right fun e=>j (aK e)⟩
    .cases h
   |ro f e t xs =>
    simp only[fU,aE]at h;intro j;subst j;exact h.1
   |_=>trivial
  .cases x with
   |own id len =>
    simp only[fU]at h;split at h
    .rename_i b k;simp only[aE]at h;exact i h.2 c d
    .cases h
   |ro f e t xs =>
    simp only[fU,aE]at h;exact i h.2 c d
   |_=>exact i (seen:=seen) h c d
def ad9 (h:Inv w0 G st a w){m:Nat}{rs:List (Ty×Bool)}{l:List CV}{us:List Value}(o:bY (dL G w st.bx st.bl) l us){r:Args rs}(cz:fU st m [] (aQ l)=true)(hi:BP st rs l=some r){ok:Nat->Prop}
  (d:∀f g,(m≠0->f=true)->RO G f g->ok g) (p:∀g id,G.own g=some (.bl id)->ok g) (j:m=0\/m=1):dp w ok rs r us:=by
 refine ayA h rs l us r o (fun e t c v xs q s x=>?_) hi;have k:=apv _ cz c q;refine jv h s x (fun id len b i n=>?_) (fun f e u F i=>?_)
 .subst i;obtain⟨H,y,z⟩:=k;have:=dm y;rw[n]at this;have:=eh (eh this);subst this;refine⟨fun g=>d b.f g fun d=>z d (by rcases j with rfl|rfl<;>simp),fun A g B=>?_⟩;obtain⟨cs,I,D,K⟩:=(h.bl id b n).wr A;exact p g id (D g B)
 .subst i;intro g;refine d f g fun E=>k (j.resolve_left E)
def apw:∀{l:List CV} {i t:Nat} {v:AV},look (atj i l) t=some v->∃b c,t=i+b/\kj l b=some c/\v=.v c
 |[],i,t,v,h=>by simp[atj,look]at h
 |c::l,i,t,v,h=>by
  simp only[atj]at h;rw[ar]at h;by_cases d:i=t
  .simp only[d,gr]at h;cases h;exact⟨0,c,by omega,rfl,rfl⟩
  .simp only[d,fG]at h;obtain⟨b,e,j,f,g⟩:=apw h;exact⟨b+1,e,by omega,f,g⟩
def atH {ok:Nat->Prop}:∀{ps:List (Ty×Bool)} {x:Args ps} {vs:List Value},dp w ok ps x vs->vs.length=ps.length
 |[],_,vs,h=>by rw[show vs=[] from h];rfl
 |a::l,x,vs,h=>by obtain⟨v,c,rfl,_,b⟩:=h;simp[atH b]
def gh0 (w:World)(ok:Nat->Prop):Gh:={nw:=fun b=>w.heap.size<=b,own:=fun _=>none,hb:=fun _=>0,hv:=fun _=>undef,ok:=ok}
def aFc (w:World)(ok:Nat->Prop)(hB:ei.n<=w.heap.size):dY:={w:=w,ok:=ok,nw:=fun b=>w.heap.size<=b,fr:=fun _=>False,hnw:=fun _ h=>h,hfr:=fun _ h=>h.elim,hB:=hB,hBf:=fun _ h=>h.elim}
def awI {G:Gh}{bx:List (Nat×List AC)}{bl:List (Nat×Option eF)}{cs:List CV}{vs:List Value}(hrel:bY (dL G w bx bl) cs vs){nt t:Nat}{v:AV}(e:look (atj 0 cs) t=some v) :
  gu G w bx bl v ((vs.toArray++Array.replicate (nt-vs.toArray.size) undef).getD t undef):=by
 obtain⟨h,c,b,f,rfl⟩:=apw e;rw[vS]at b;subst b;obtain⟨y,d,g⟩:=hrel.nth f;have hlt:t<vs.length:=(oC.1 d).1;have:(vs.toArray++Array.replicate (nt-vs.toArray.size) undef).getD t undef=y:=by rw[Oc,Array.getElem?_append_left (by simpa using hlt)];simp[d]
 rw[this];exact g
def aH1 {ok:Nat->Prop}{ps:List (Ty×Bool)}(e:dM ps=true){x:Args ps}{vs:List Value}(c:dp w ok ps x vs){nt:Nat}(q:ps.length<=nt)(f:ei.n<=w.heap.size) :
  Inv (aFc w ok f) (gh0 w ok) {nt:=nt,tm:=atj 0 (aGT ps x),bx:=[],bl:=[]} {tmps:=vs.toArray++Array.replicate (nt-vs.toArray.size) undef,defers:=[]} w:=by
 have hlen:=atH c;have h:dp w (RO (gh0 w ok) false) ps x vs:=eu (fun g i=>⟨rfl,.inr ⟨rfl,i⟩⟩) c;have hrel:=CU (bx:=[]) (bl:=[]) e h;refine⟨rfl,rfl,dX.refl _ _,rfl,?_,trivial,fun g b r j=>(by cases j),?_,?_,?_,?_⟩
 .simp[hlen];omega
 .exact fun t v m=>awI hrel m
 .intro d l n;simp[look]at n
 .intro id b o;simp[look]at o
 .intro g k p;simp[gh0]at p
def art {T : Tab} (F : ∀ f con, C f = some con → Gs P T f con) {f : FuncId} {k : Func} {con : Con} (n : P.funcs[f]? = some k) (u : (k.name == "runtime.NumGoroutine") = false) (v : k.body.isNone = false)
  (H:Nat->Option Hint) (I:∀x r,con.g x=some r->∃N,aFG P C (nY.Lm N) H k con.ps con.rs con.m x=some r):aj3 P T f con:=by
 refine⟨⟨k,n,u,v⟩,fun x r d w z K ok qe L=>?_⟩;obtain⟨N,q⟩:=I x r d;obtain⟨s,q⟩:=aT q;simp only[aE]at s;obtain⟨c,A⟩:∃c,k.body=some c:=by
  cases h:k.body with
  |none=>rw[h]at v;cases v|some c=>exact⟨c,rfl⟩
 have M:dE k=c:=by simp[dE,A]
 rw[M]at q;refine calls_of_wp n A (re (w0:=aFc w ok z) (fun f con n=>(F f con n).at K fun _ h=>h.elim) H (fun e _=>⟨fun _=>rfl,fun b cur qf _ u O=>absurd (sC.1 O).1 (Nat.not_lt.2 u)⟩) c ((aH1 s.1.1.2 L (BQ s.1.1.1) z).awj (ajO H)) q fun e t cp Q o i j=>?_);have post:∀e,e=Exit.normal\/e=Exit.ret->(match Qh P cp k.results.toList with
   |some l=>match fU cp con.m [] (aQ l)&&(match con.m with|2=>wT cp con.rs l|_=>true) with
    |true=>BP cp con.rs l|false=>none
   |none=>none)=some r->bodyPost P k (fun e o=>∃us,e=.returned (ej us)/\XT ok w o con r us/\Below w.heap.size w o) e Q o:=by
  intro e R j;split at j
  .rename_i l S;split at j
   .rename_i cz;rw[aE]at cz;obtain⟨us,y,B⟩:=TX (P:=P) i S;have W:t.nw=fun b=>w.heap.size<=b:=i.nw
    have X:t.ok=ok:=i.rok;have p:∀g,t.nw g->w.heap.size<=g:=fun g d=>by rw[W]at d;exact d
    have D:∃E,Ending.returned (ej us)=.returned (ej E)/\XT ok w o con r E/\Below w.heap.size w o:=by
     refine⟨_,rfl,?_,i.below.below fun _ h=>h⟩;unfold XT;split
     .rename_i m;rw[m]at cz;exact ad9 i y cz.1 j (fun f g _ d=>d.2.elim (fun h=>.inl (p g h)) fun h=>.inr (by rw[<-X];exact h.2)) (fun g id d=>.inl (p g (i.TI d))) (.inl rfl)
     .rename_i m;rw[m]at cz;exact ad9 i y cz.1 j (fun f g n d=>d.2.elim (p g) fun h=>by rw[n (by simp)]at h;cases h.1) (fun g id d=>p g (i.TI d)) (.inr rfl)
     .rename_i Y Z;by_cases m:con.m=2
      .rw[m]at cz;refine⟨b1 t (aQ l),fun g qd d=>?_,?_⟩
       .unfold b1 at d;split at d
        .rename_i id hid;exact p g (i.TI hid)
        .cases d
       .exact(Hz (.inl rfl) (fun g d=>⟨d.2.elim (p g) (fun h=>by have:=h.1;simp[m2]at this),by simp[b1,d.1]⟩) i (aQ l) [] con.rs l us r y (pre:=[]) (seen:=[]) (by simp) (fun id len m=>by simp at m) (by rw[fD];exact cz.1) cz.2 j).1
      .have:=BQ s.2;have qg:con.m≠0:=Y;have qh:con.m≠1:=Z;omega
    rcases R with rfl|rfl
    .exact bodyPost_end B i.defers D
    .exact bodyPost_ret B i.defers D
   .cases j
  .cases j
 cases e with
 |norm=>exact post .normal (.inl rfl) j|ret=>exact post .ret (.inr rfl) j|exit qd=>cases j
end
end Go.Am
