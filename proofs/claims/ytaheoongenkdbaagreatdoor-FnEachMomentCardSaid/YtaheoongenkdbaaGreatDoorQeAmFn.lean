/- No condition. -/
import Derived.Test.YtaheoongenkdbaaGreatDoorQeAmCode
set_option linter.all false
namespace Go.Am
open Go.RowKit
section
variable {N:Nat} {P:Program} {C:FuncId->Option Any} {w0:eH} {w:World} {G:Gh} {st:St} {a:Act}
def atK (a:Act):ResultVar->Sem Value
 |.tmp t=>pure (a.tmps.getD t undef)|.cell b t=>do loadVar t (<-asAddr (a.tmps.getD b undef))
def aCF (h:Inv w0 G st a w){r:ResultVar}{c:CV}(d:aDQ P st r=some c) :
  ∃u,en G w st.bx st.bl c u/\(atK a r).run P w=.ok u w:=by
 cases r with
 |tmp t =>
  cases d;exact⟨_,h.dR (.tmp t),rfl⟩
 |cell b t =>
  simp only[aDQ]at d;split at d
  .rename_i l off v;obtain⟨g,q,o,f,x,hrel⟩:=Ln h (h.ac (.tmp b)) v;have e:=(hrel.drop off).take (P.cellsOf t);have j:cY w g (q+off) ((o.drop off).take (P.cellsOf t)):=x.drop.take;have hlen:=e.len;have f:a.tmps.getD b undef=.pointer (some ⟨g,q+off,none⟩):=f;split at d
   .rename_i z;have E:=aJ z;split at d
    .rename_i k;cases d;have n:=wm (P:=P) j (by omega) (.inr trivial) k;obtain⟨i,A⟩:=wo k;simp only[A]at n;exact⟨_,⟨_,rfl,e⟩,by simp[atK,f,asAddr,n]⟩
    .rename_i k;have n:=wm (P:=P) j (by omega) (.inr trivial) k;split at d
     .rename_i y B;cases d;rw[B]at e;obtain⟨u,D⟩:∃u,(o.drop off).take (P.cellsOf t)=[u]:=by
       cases p:(o.drop off).take (P.cellsOf t) with
       |nil=>rw[p]at e;exact e.elim
       |cons u m =>
        rw[p]at e;cases m with
        |nil=>exact⟨u,rfl⟩|cons _ _=>exact e.2.elim
      rw[D]at e j;have s:=j 0 u rfl;rw[NG]at s;exact⟨u,e.1,by simp[atK,f,asAddr,n,s]⟩
     .cases d
    .cases d
   .cases d
  .cases d
def Uu (h:Inv w0 G st a w){m:Func}{l:List CV}(e:QI P st m.results.toList=some l):∃us,cg (en G w st.bx st.bl) l us/\(results m a.tmps).run P w=.ok (eZ us) w:=by
 have key:∀(d:List ResultVar) (l:List CV),QI P st d=some l->∃us,cg (en G w st.bx st.bl) l us /\
   ∀(f:ResultVar->Sem Value),(∀r,f r=atK a r)->(d.mapM f).run P w=.ok us w:=by
  intro d
  induction d with
  |nil=>intro l h;cases h;exact⟨[],trivial,fun f _=>rfl⟩
  |cons x d n =>
   intro l b;simp only[QI]at b;split at b
   .rename_i c e;split at b
    .rename_i cs o;cases b;obtain⟨u,g,i⟩:=aCF h e;obtain⟨us,p,q⟩:=n cs o;refine⟨u::us,⟨g,p⟩,fun f j=>?_⟩;rw[List.mapM_cons,j];simp only[Sem.run_bind,Sem.run_pure,Result.andThen_ok,i,q f j]
    .cases b
   .cases b
 obtain⟨us,g,i⟩:=key _ _ e;refine⟨us,g,?_⟩;unfold results;rw[Array.mapM_eq_mapM_toList];simp only[Sem.run_bind,Sem.run_map,Sem.run_pure];rw[i _ (fun r=>by cases r<;>rfl)];simp only[Result.andThen_ok]
 congr 1
 cases us with
 |nil=>rfl
 |cons v k =>
  cases k with
  |nil=>rfl|cons s k=>simp[eZ]
def arJ {m:Nat}(l:List AC):∀{seen:List Nat},gn st m seen l=true->∀c∈l,match c with
  |.own id _=>∃b,st.oG id=some b/\(m≠0->m≠3->b.f=true)|.ro f _ _ _=>m=1->f=true|_=>True:=by
 induction l with
 |nil=>intro _ _ c g;simp at g
 |cons x l i =>
  intro seen h c g;rcases cN.1 g with d|d
  .subst d;cases c with
   |own id len =>
    simp only[gn]at h;split at h
    .rename_i b k;simp only[aA,iS]at h;exact⟨b,k,fun j n=>(h.1.1.resolve_right fun e=>n (aJ e)).resolve_right fun e=>j (aJ e)⟩
    .cases h
   |ro f e t xs =>
    simp only[gn,aA]at h;intro j;subst j;exact h.1
   |_=>trivial
  .cases x with
   |own id len =>
    simp only[gn]at h;split at h
    .rename_i b k;simp only[aA]at h;exact i h.2 c d
    .cases h
   |ro f e t xs =>
    simp only[gn,aA]at h;exact i h.2 c d
   |_=>exact i (seen:=seen) h c d
def ae1 (h:Inv w0 G st a w){m:Nat}{rs:List (Ty×Bool)}{l:List CV}{us:List Value}(o:cg (en G w st.bx st.bl) l us){r:Args rs}(cW:gn st m [] (aR l)=true)(p:BF st rs l=some r){ok:Nat->Prop}
  (d:∀f g,(m≠0->f=true)->RO G f g->ok g) (q:∀g id,G.own g=some (.bl id)->ok g) (j:m=0\/m=1):dS w ok rs r us:=by
 refine aAT h rs l us r o (fun t c v xs s x y=>?_) p;have k:=arJ _ cW c s;refine jO h x y (fun id len b i n=>?_) (fun f e u H i=>?_)
 .subst i;obtain⟨I,z,A⟩:=k;have:=dA z;rw[n]at this;have:=eE (eE this);subst this;refine⟨fun g=>d b.f g fun d=>A d (by rcases j with rfl|rfl<;>simp),fun B g D=>?_⟩;obtain⟨cs,K,E,L⟩:=(h.bl id b n).wr B;exact q g id (E g D)
 .subst i;intro g;refine d f g fun F=>k (j.resolve_left F)
def arK:∀{l:List CV} {i t:Nat} {v:AV},look (avW i l) t=some v->∃b c,t=i+b/\mA l b=some c/\v=.v c
 |[],i,t,v,h=>by simp[avW,look]at h
 |c::l,i,t,v,h=>by
  simp only[avW]at h;rw[aq]at h;by_cases d:i=t
  .simp only[d,fX]at h;cases h;exact⟨0,c,by omega,rfl,rfl⟩
  .simp only[d,fW]at h;obtain⟨b,e,j,f,g⟩:=arK h;exact⟨b+1,e,by omega,f,g⟩
def awl {ok:Nat->Prop}:∀{ps:List (Ty×Bool)} {x:Args ps} {vs:List Value},dS w ok ps x vs->vs.length=ps.length
 |[],_,vs,h=>by rw[show vs=[] from h];rfl
 |a::l,x,vs,h=>by obtain⟨v,c,rfl,_,b⟩:=h;simp[awl b]
def gh0 (w:World)(ok:Nat->Prop):Gh:={nw:=fun b=>w.heap.size<=b,own:=fun _=>none,hb:=fun _=>0,hv:=fun _=>undef,ok:=ok}
def aHG (w:World)(ok:Nat->Prop):eH:={w:=w,ok:=ok,nw:=fun b=>w.heap.size<=b,fr:=fun _=>False,hnw:=fun _ h=>h,hfr:=fun _ h=>h.elim}
def aza {G:Gh}{bx:List (Nat×List AC)}{bl:List (Nat×Option fo)}{cs:List CV}{vs:List Value}(hrel:cg (en G w bx bl) cs vs){nt t:Nat}{v:AV}(e:look (avW 0 cs) t=some v) :
  iy G w bx bl v ((vs.toArray++Array.replicate (nt-vs.toArray.size) undef).getD t undef):=by
 obtain⟨h,c,b,f,rfl⟩:=arK e;rw[we]at b;subst b;obtain⟨y,d,g⟩:=hrel.nth f;have hlt:t<vs.length:=(wb.1 d).1;have:(vs.toArray++Array.replicate (nt-vs.toArray.size) undef).getD t undef=y:=by rw[Od,Array.getElem?_append_left (by simpa using hlt)];simp[d]
 rw[this];exact g
def aJ8 {ok:Nat->Prop}{ps:List (Ty×Bool)}(e:ek ps=true){x:Args ps}{vs:List Value}(c:dS w ok ps x vs){nt:Nat}(p:ps.length<=nt) :
  Inv (aHG w ok) (gh0 w ok) {nt:=nt,tm:=avW 0 (aI3 ps x),bx:=[],bl:=[]} {tmps:=vs.toArray++Array.replicate (nt-vs.toArray.size) undef,defers:=[]} w:=by
 have hlen:=awl c;have f:dS w (RO (gh0 w ok) false) ps x vs:=jP (fun g h=>⟨rfl,.inr ⟨rfl,h⟩⟩) c;have hrel:=CK (bx:=[]) (bl:=[]) e f;refine⟨rfl,rfl,eG.refl _ _,rfl,?_,trivial,fun g b q i=>(by cases i),?_,?_,?_,?_⟩
 .simp[hlen];omega
 .exact fun t v j=>aza hrel j
 .intro d l m;simp[look]at m
 .intro id b n;simp[look]at n
 .intro g k o;simp[gh0]at o
def atL {T : Tab} (D : ∀ f con, C f = some con → sJ P T f con) {f : FuncId} {k : Func} {con : Con} (n : P.funcs[f]? = some k) (E : (k.name == "runtime.NumGoroutine") = false) (u : k.body.isNone = false)
  (H:Nat->Option Hint) (F:∀x r,con.g x=some r->∃N,aHY P C (oH.Ll N) H k con.ps con.rs con.m x=some r):arw P T f con:=by
 refine⟨⟨k,n,E,u⟩,fun x r d w I ok Z K=>?_⟩;obtain⟨N,q⟩:=F x r d;obtain⟨s,q⟩:=aU q;simp only[aA]at s;obtain⟨c,y⟩:∃c,k.body=some c:=by
  cases h:k.body with
  |none=>rw[h]at u;cases u|some c=>exact⟨c,rfl⟩
 have L:gX k=c:=by simp[gX,y]
 rw[L]at q;refine calls_of_wp n y (rf (w0:=aHG w ok) (fun f con n=>(D f con n).at I fun _ h=>h.elim) H c ((aJ8 s.1.1.2 K (Fs s.1.1.1)).ayP (aro H)) q fun e t cy M o i j=>?_);have post:∀e,e=Exit.normal\/e=Exit.ret->(match QI P cy k.results.toList with
   |some l=>match gn cy con.m [] (aR l)&&(match con.m with|2=>w3 cy con.rs l|_=>true) with
    |true=>BF cy con.rs l|false=>none
   |none=>none)=some r->bodyPost P k (fun e o=>∃us,e=.returned (eZ us)/\Yj ok w o con r us/\Below w.heap.size w o) e M o:=by
  intro e O j;split at j
  .rename_i l Q;split at j
   .rename_i cW;rw[aA]at cW;obtain⟨us,v,z⟩:=Uu (P:=P) i Q;have R:t.nw=fun b=>w.heap.size<=b:=i.nw
    have S:t.ok=ok:=i.rok;have p:∀g,t.nw g->w.heap.size<=g:=fun g d=>by rw[R]at d;exact d
    have A:∃B,Ending.returned (eZ us)=.returned (eZ B)/\Yj ok w o con r B/\Below w.heap.size w o:=by
     refine⟨_,rfl,?_,i.below.below fun _ h=>h⟩;unfold Yj;split
     .rename_i m;rw[m]at cW;exact ae1 i v cW.1 j (fun f g _ d=>d.2.elim (fun h=>.inl (p g h)) fun h=>.inr (by rw[<-S];exact h.2)) (fun g id d=>.inl (p g (i.Uc d))) (.inl rfl)
     .rename_i m;rw[m]at cW;exact ae1 i v cW.1 j (fun f g n d=>d.2.elim (p g) fun h=>by rw[n (by simp)]at h;cases h.1) (fun g id d=>p g (i.Uc d)) (.inr rfl)
     .rename_i W X;by_cases m:con.m=2
      .rw[m]at cW;refine⟨ch t (aR l),fun g Y d=>?_,?_⟩
       .unfold ch at d;split at d
        .rename_i id hid;exact p g (i.Uc hid)
        .cases d
       .exact(Hh (.inl rfl) (fun g d=>⟨d.2.elim (p g) (fun h=>by have:=h.1;simp[m2]at this),by simp[ch,d.1]⟩) i (aR l) [] con.rs l us r v (pre:=[]) (seen:=[]) (by simp) (fun id len m=>by simp at m) (by rw[fU];exact cW.1) cW.2 j).1
      .have:=Fs s.2;have qa:con.m≠0:=W;have qb:con.m≠1:=X;omega
    rcases O with rfl|rfl
    .exact bodyPost_end z i.defers A
    .exact bodyPost_ret z i.defers A
   .cases j
  .cases j
 cases e with
 |norm=>exact post .normal (.inl rfl) j|ret=>exact post .ret (.inr rfl) j|exit Y=>cases j
end
end Go.Am
