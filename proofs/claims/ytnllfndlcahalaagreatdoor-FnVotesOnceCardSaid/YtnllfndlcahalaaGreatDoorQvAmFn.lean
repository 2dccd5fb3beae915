/- No condition. -/
import Derived.Test.YtnllfndlcahalaaGreatDoorQvAmCode
set_option linter.all false
namespace Go.Am
open Go.RowKit
section
variable {N:Nat} {P:Program} {C:FuncId->Option Any} {w0:fh} {w:World} {G:Gh} {st:St} {a:Act}
def awr (a:Act):ResultVar->Sem Value
 |.tmp t=>pure (a.tmps.getD t undef)|.cell b t=>do loadVar t (<-asAddr (a.tmps.getD b undef))
def aFu (h:Inv w0 G st a w){r:ResultVar}{c:CV}(d:aGN P st r=some c) :
  ∃u,eH G w st.bx st.bl c u/\(awr a r).run P w=.ok u w:=by
 cases r with
 |tmp t =>
  cases d;exact⟨_,h.ee (.tmp t),rfl⟩
 |cell b t =>
  simp only[aGN]at d;split at d
  .rename_i l off v;obtain⟨g,q,o,f,x,hrel⟩:=V3 h (h.ac (.tmp b)) v;have e:=(hrel.drop off).take (P.cellsOf t);have j:dE w g (q+off) ((o.drop off).take (P.cellsOf t)):=x.drop.take;have hlen:=e.len;have f:a.tmps.getD b undef=.pointer (some ⟨g,q+off,none⟩):=f;split at d
   .rename_i z;have E:=aP z;split at d
    .rename_i k;cases d;have n:=Fh (P:=P) j (by omega) (.inr trivial) k;obtain⟨i,A⟩:=Fi k;simp only[A]at n;exact⟨_,⟨_,rfl,e⟩,by simp[awr,f,asAddr,n]⟩
    .rename_i k;have n:=Fh (P:=P) j (by omega) (.inr trivial) k;split at d
     .rename_i y B;cases d;rw[B]at e;obtain⟨u,D⟩:∃u,(o.drop off).take (P.cellsOf t)=[u]:=by
       cases p:(o.drop off).take (P.cellsOf t) with
       |nil=>rw[p]at e;exact e.elim
       |cons u m =>
        rw[p]at e;cases m with
        |nil=>exact⟨u,rfl⟩|cons _ _=>exact e.2.elim
      rw[D]at e j;have s:=j 0 u rfl;rw[Sb]at s;exact⟨u,e.1,by simp[awr,f,asAddr,n,s]⟩
     .cases d
    .cases d
   .cases d
  .cases d
def Wl (h:Inv w0 G st a w){m:Func}{l:List CV}(e:Sf P st m.results.toList=some l):∃us,ch (eH G w st.bx st.bl) l us/\(results m a.tmps).run P w=.ok (fu us) w:=by
 have key:∀(d:List ResultVar) (l:List CV),Sf P st d=some l->∃us,ch (eH G w st.bx st.bl) l us /\
   ∀(f:ResultVar->Sem Value),(∀r,f r=awr a r)->(d.mapM f).run P w=.ok us w:=by
  intro d
  induction d with
  |nil=>intro l h;cases h;exact⟨[],trivial,fun f _=>rfl⟩
  |cons x d n =>
   intro l b;simp only[Sf]at b;split at b
   .rename_i c e;split at b
    .rename_i cs o;cases b;obtain⟨u,g,i⟩:=aFu h e;obtain⟨us,p,q⟩:=n cs o;refine⟨u::us,⟨g,p⟩,fun f j=>?_⟩;rw[List.mapM_cons,j];simp only[Sem.run_bind,Sem.run_pure,Result.andThen_ok,i,q f j]
    .cases b
   .cases b
 obtain⟨us,g,i⟩:=key _ _ e;refine⟨us,g,?_⟩;unfold results;rw[Array.mapM_eq_mapM_toList];simp only[Sem.run_bind,Sem.run_map,Sem.run_pure];rw[i _ (fun r=>by cases r<;>rfl)];simp only[Result.andThen_ok]
 congr 1
 cases us with
 |nil=>rfl
 |cons v k =>
  cases k with
  |nil=>rfl|cons s k=>simp[fu]
def auo {m:Nat}(l:List AC):∀{seen:List Nat},gS st m seen l=true->∀c∈l,match c with
  |.own id _=>∃b,st.rL id=some b/\(m≠0->m≠3->b.f=true)|.ro f _ _ _=>m=1->f=true|_=>True:=by
 induction l with
 |nil=>intro _ _ c g;simp at g
 |cons x l i =>
  intro seen h c g;rcases cS.1 g with d|d
  .subst d;cases c with
   |own id len =>
    simp only[gS]at h;split at h
    .rename_i b k;simp only[aG,kK]at h;exact⟨b,k,fun j n=>(h.1.1.resolve_right fun e=>n (aP e)).resolve_right fun e=>j (aP e)⟩
    .cases h
   |ro f e t xs =>
    simp only[gS,aG]at h;intro j;subst j;exact h.1
   |_=>trivial
  .cases x with
   |own id len =>
    simp only[gS]at h;split at h
    .rename_i b k;simp only[aG]at h;exact i h.2 c d
    .cases h
   |ro f e t xs =>
    simp only[gS,aG]at h;exact i h.2 c d
   |_=>exact i (seen:=seen) h c d
def ahA (h:Inv w0 G st a w){m:Nat}{rs:List (Ty×Bool)}{l:List CV}{us:List Value}(o:ch (eH G w st.bx st.bl) l us){r:Args rs}(dd:gS st m [] (aU l)=true)(hi:Cj st rs l=some r){ok:Nat->Prop}
  (d:∀f g,(m≠0->f=true)->RO G f g->ok g) (p:∀g id,G.own g=some (.bl id)->ok g) (j:m=0\/m=1):ef w ok rs r us:=by
 refine aDO h rs l us r o (fun t c v xs q s x=>?_) hi;have k:=auo _ dd c q;refine kv h s x (fun id len b i n=>?_) (fun f e u F i=>?_)
 .subst i;obtain⟨H,y,z⟩:=k;have:=eI y;rw[n]at this;have:=eV (eV this);subst this;refine⟨fun g=>d b.f g fun d=>z d (by rcases j with rfl|rfl<;>simp),fun A g B=>?_⟩;obtain⟨cs,I,D,K⟩:=(h.bl id b n).wr A;exact p g id (D g B)
 .subst i;intro g;refine d f g fun E=>k (j.resolve_left E)
def aup:∀{l:List CV} {i t:Nat} {v:AV},look (ayE i l) t=some v->∃b c,t=i+b/\nz l b=some c/\v=.v c
 |[],i,t,v,h=>by simp[ayE,look]at h
 |c::l,i,t,v,h=>by
  simp only[ayE]at h;rw[au]at h;by_cases d:i=t
  .simp only[d,gR]at h;cases h;exact⟨0,c,by omega,rfl,rfl⟩
  .simp only[d,gA]at h;obtain⟨b,e,j,f,g⟩:=aup h;exact⟨b+1,e,by omega,f,g⟩
def ay2 {ok:Nat->Prop}:∀{ps:List (Ty×Bool)} {x:Args ps} {vs:List Value},ef w ok ps x vs->vs.length=ps.length
 |[],_,vs,h=>by rw[show vs=[] from h];rfl
 |a::l,x,vs,h=>by obtain⟨v,c,rfl,_,b⟩:=h;simp[ay2 b]
def gh0 (w:World)(ok:Nat->Prop):Gh:={nw:=fun b=>w.heap.size<=b,own:=fun _=>none,hb:=fun _=>0,hv:=fun _=>undef,ok:=ok}
def aKz (w:World)(ok:Nat->Prop):fh:={w:=w,ok:=ok,nw:=fun b=>w.heap.size<=b,fr:=fun _=>False,hnw:=fun _ h=>h,hfr:=fun _ h=>h.elim}
def aBW {G:Gh}{bx:List (Nat×List AC)}{bl:List (Nat×Option fU)}{cs:List CV}{vs:List Value}(hrel:ch (eH G w bx bl) cs vs){b t:Nat}{v:AV}(f:look (ayE 0 cs) t=some v) :
  jQ G w bx bl v ((vs.toArray++Array.replicate (b-vs.toArray.size) undef).getD t undef):=by
 obtain⟨i,c,d,g,rfl⟩:=aup f;rw[wS]at d;subst d;obtain⟨y,e,h⟩:=hrel.nth g;have hlt:t<vs.length:=(wR.1 e).1;have:(vs.toArray++Array.replicate (b-vs.toArray.size) undef).getD t undef=y:=by rw[PL,Array.getElem?_append_left (by simpa using hlt)];simp[e]
 rw[this];exact h
def aME {ok:Nat->Prop}{ps:List (Ty×Bool)}(e:eG ps=true){x:Args ps}{vs:List Value}(c:ef w ok ps x vs){nt:Nat}(p:ps.length<=nt) :
  Inv (aKz w ok) (gh0 w ok) {nt:=nt,tm:=ayE 0 (aLP ps x),bx:=[],bl:=[]} {tmps:=vs.toArray++Array.replicate (nt-vs.toArray.size) undef,defers:=[]} w:=by
 have hlen:=ay2 c;have f:ef w (RO (gh0 w ok) false) ps x vs:=kx (fun g h=>⟨rfl,.inr ⟨rfl,h⟩⟩) c;have hrel:=Ds (bx:=[]) (bl:=[]) e f;refine⟨rfl,rfl,e5.refl _ _,rfl,?_,trivial,fun g b q i=>(by cases i),?_,?_,?_,?_⟩
 .simp[hlen];omega
 .exact fun t v j=>aBW hrel j
 .intro d l m;simp[look]at m
 .intro id b n;simp[look]at n
 .intro g k o;simp[gh0]at o
def aws {T : Tab} (D : ∀ f con, C f = some con → tg P T f con) {f : FuncId} {k : Func} {con : Con} (n : P.funcs[f]? = some k) (E : (k.name == "runtime.NumGoroutine") = false) (u : k.body.isNone = false)
  (H:Nat->Option Hint) (F:∀x r,con.g x=some r->∃N,aKP P C (p5.Se N) H k con.ps con.rs con.m x=some r):aub P T f con:=by
 refine⟨⟨k,n,E,u⟩,fun x r d w I ok Z K=>?_⟩;obtain⟨N,q⟩:=F x r d;obtain⟨s,q⟩:=aX q;simp only[aG]at s;obtain⟨c,y⟩:∃c,k.body=some c:=by
  cases h:k.body with
  |none=>rw[h]at u;cases u|some c=>exact⟨c,rfl⟩
 have L:eX k=c:=by simp[eX,y]
 rw[L]at q;refine calls_of_wp n y (rR (w0:=aKz w ok) (fun f con n=>(D f con n).at I fun _ h=>h.elim) H c ((aME s.1.1.2 K (Gq s.1.1.1)).aBA (at2 H)) q fun e t da M o i j=>?_);have post:∀e,e=Exit.normal\/e=Exit.ret->(match Sf P da k.results.toList with
   |some l=>match gS da con.m [] (aU l)&&(match con.m with|2=>ye da con.rs l|_=>true) with
    |true=>Cj da con.rs l|false=>none
   |none=>none)=some r->bodyPost P k (fun e o=>∃us,e=.returned (fu us)/\aas ok w o con r us/\Below w.heap.size w o) e M o:=by
  intro e O j;split at j
  .rename_i l Q;split at j
   .rename_i dd;rw[aG]at dd;obtain⟨us,v,z⟩:=Wl (P:=P) i Q;have R:t.nw=fun b=>w.heap.size<=b:=i.nw
    have S:t.ok=ok:=i.rok;have p:∀g,t.nw g->w.heap.size<=g:=fun g d=>by rw[R]at d;exact d
    have A:∃B,Ending.returned (fu us)=.returned (fu B)/\aas ok w o con r B/\Below w.heap.size w o:=by
     refine⟨_,rfl,?_,i.below.below fun _ h=>h⟩;unfold aas;split
     .rename_i m;rw[m]at dd;exact ahA i v dd.1 j (fun f g _ d=>d.2.elim (fun h=>.inl (p g h)) fun h=>.inr (by rw[<-S];exact h.2)) (fun g id d=>.inl (p g (i.V1 d))) (.inl rfl)
     .rename_i m;rw[m]at dd;exact ahA i v dd.1 j (fun f g n d=>d.2.elim (p g) fun h=>by rw[n (by simp)]at h;cases h.1) (fun g id d=>p g (i.V1 d)) (.inr rfl)
     .rename_i W X;by_cases m:con.m=2
      .rw[m]at dd;refine⟨cg t (aU l),fun g Y d=>?_,?_⟩
       .unfold cg at d;split at d
        .rename_i id hid;exact p g (i.V1 hid)
        .cases d
       .exact(Iq (.inl rfl) (fun g d=>⟨d.2.elim (p g) (fun h=>by have:=h.1;simp[m2]at this),by simp[cg,d.1]⟩) i (aU l) [] con.rs l us r v (pre:=[]) (seen:=[]) (by simp) (fun id len m=>by simp at m) (by rw[fs];exact dd.1) dd.2 j).1
      .have:=Gq s.2;have qd:con.m≠0:=W;have qe:con.m≠1:=X;omega
    rcases O with rfl|rfl
    .exact bodyPost_end z i.defers A
    .exact bodyPost_ret z i.defers A
   .cases j
  .cases j
 cases e with
 |norm=>exact post .normal (.inl rfl) j|ret=>exact post .ret (.inr rfl) j|exit Y=>cases j
end
end Go.Am
