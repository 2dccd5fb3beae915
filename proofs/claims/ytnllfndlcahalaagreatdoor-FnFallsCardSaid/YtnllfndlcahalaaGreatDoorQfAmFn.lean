/- No condition. -/
import Derived.Test.YtnllfndlcahalaaGreatDoorQfAmCode
set_option linter.all false
namespace Go.Am
open Go.RowKit
section
variable {N:Nat} {P:Program} {C:FuncId->Option Any} {w0:fc} {w:World} {G:Gh} {st:St} {a:Act}
def avA (a:Act):ResultVar->Sem Value
 |.tmp t=>pure (a.tmps.getD t undef)|.cell b t=>do loadVar t (<-asAddr (a.tmps.getD b undef))
def aEQ (h:Inv w0 G st a w){r:ResultVar}{c:CV}(d:aF9 P st r=some c) :
  ∃u,eF G w st.bx st.bl c u/\(avA a r).run P w=.ok u w:=by
 cases r with
 |tmp t =>
  cases d;exact⟨_,h.ec (.tmp t),rfl⟩
 |cell b t =>
  simp only[aF9]at d;split at d
  .rename_i l off v;obtain⟨g,q,o,f,x,hrel⟩:=VB h (h.ac (.tmp b)) v;have e:=(hrel.drop off).take (P.cellsOf t);have j:dE w g (q+off) ((o.drop off).take (P.cellsOf t)):=x.drop.take;have hlen:=e.len;have f:a.tmps.getD b undef=.pointer (some ⟨g,q+off,none⟩):=f;split at d
   .rename_i z;have E:=aO z;split at d
    .rename_i k;cases d;have n:=E6 (P:=P) j (by omega) (.inr trivial) k;obtain⟨i,A⟩:=E7 k;simp only[A]at n;exact⟨_,⟨_,rfl,e⟩,by simp[avA,f,asAddr,n]⟩
    .rename_i k;have n:=E6 (P:=P) j (by omega) (.inr trivial) k;split at d
     .rename_i y B;cases d;rw[B]at e;obtain⟨u,D⟩:∃u,(o.drop off).take (P.cellsOf t)=[u]:=by
       cases p:(o.drop off).take (P.cellsOf t) with
       |nil=>rw[p]at e;exact e.elim
       |cons u m =>
        rw[p]at e;cases m with
        |nil=>exact⟨u,rfl⟩|cons _ _=>exact e.2.elim
      rw[D]at e j;have s:=j 0 u rfl;rw[RG]at s;exact⟨u,e.1,by simp[avA,f,asAddr,n,s]⟩
     .cases d
    .cases d
   .cases d
  .cases d
def VS (h:Inv w0 G st a w){m:Func}{l:List CV}(e:RL P st m.results.toList=some l):∃us,ch (eF G w st.bx st.bl) l us/\(results m a.tmps).run P w=.ok (fp us) w:=by
 have key:∀(d:List ResultVar) (l:List CV),RL P st d=some l->∃us,ch (eF G w st.bx st.bl) l us /\
   ∀(f:ResultVar->Sem Value),(∀r,f r=avA a r)->(d.mapM f).run P w=.ok us w:=by
  intro d
  induction d with
  |nil=>intro l h;cases h;exact⟨[],trivial,fun f _=>rfl⟩
  |cons x d n =>
   intro l b;simp only[RL]at b;split at b
   .rename_i c e;split at b
    .rename_i cs o;cases b;obtain⟨u,g,i⟩:=aEQ h e;obtain⟨us,p,q⟩:=n cs o;refine⟨u::us,⟨g,p⟩,fun f j=>?_⟩;rw[List.mapM_cons,j];simp only[Sem.run_bind,Sem.run_pure,Result.andThen_ok,i,q f j]
    .cases b
   .cases b
 obtain⟨us,g,i⟩:=key _ _ e;refine⟨us,g,?_⟩;unfold results;rw[Array.mapM_eq_mapM_toList];simp only[Sem.run_bind,Sem.run_map,Sem.run_pure];rw[i _ (fun r=>by cases r<;>rfl)];simp only[Result.andThen_ok]
 congr 1
 cases us with
 |nil=>rfl
 |cons v k =>
  cases k with
  |nil=>rfl|cons s k=>simp[fp]
def ats {m:Nat}(l:List AC):∀{seen:List Nat},gM st m seen l=true->∀c∈l,match c with
  |.own id _=>∃b,st.rI id=some b/\(m≠0->m≠3->b.f=true)|.ro f _ _ _=>m=1->f=true|_=>True:=by
 induction l with
 |nil=>intro _ _ c g;simp at g
 |cons x l i =>
  intro seen h c g;rcases cT.1 g with d|d
  .subst d;cases c with
   |own id len =>
    simp only[gM]at h;split at h
    .rename_i b k;simp only[aG,kj]at h;exact⟨b,k,fun j n=>(h.1.1.resolve_right fun e=>n (aO e)).resolve_right fun e=>j (aO e)⟩
    .cases h
   |ro f e t xs =>
    simp only[gM,aG]at h;intro j;subst j;exact h.1
   |_=>trivial
  .cases x with
   |own id len =>
    simp only[gM]at h;split at h
    .rename_i b k;simp only[aG]at h;exact i h.2 c d
    .cases h
   |ro f e t xs =>
    simp only[gM,aG]at h;exact i h.2 c d
   |_=>exact i (seen:=seen) h c d
def agK (h:Inv w0 G st a w){m:Nat}{rs:List (Ty×Bool)}{l:List CV}{us:List Value}(o:ch (eF G w st.bx st.bl) l us){r:Args rs}(df:gM st m [] (aV l)=true)(hi:Cb st rs l=some r){ok:Nat->Prop}
  (d:∀f g,(m≠0->f=true)->RO G f g->ok g) (p:∀g id,G.own g=some (.bl id)->ok g) (j:m=0\/m=1):ed w ok rs r us:=by
 refine aC4 h rs l us r o (fun t c v xs q s x=>?_) hi;have k:=ats _ df c q;refine ks h s x (fun id len b i n=>?_) (fun f e u F i=>?_)
 .subst i;obtain⟨H,y,z⟩:=k;have:=eG y;rw[n]at this;have:=eT (eT this);subst this;refine⟨fun g=>d b.f g fun d=>z d (by rcases j with rfl|rfl<;>simp),fun A g B=>?_⟩;obtain⟨cs,I,D,K⟩:=(h.bl id b n).wr A;exact p g id (D g B)
 .subst i;intro g;refine d f g fun E=>k (j.resolve_left E)
def att:∀{l:List CV} {i t:Nat} {v:AV},look (axO i l) t=some v->∃b c,t=i+b/\nv l b=some c/\v=.v c
 |[],i,t,v,h=>by simp[axO,look]at h
 |c::l,i,t,v,h=>by
  simp only[axO]at h;rw[au]at h;by_cases d:i=t
  .simp only[d,gL]at h;cases h;exact⟨0,c,by omega,rfl,rfl⟩
  .simp only[d,gu]at h;obtain⟨b,e,j,f,g⟩:=att h;exact⟨b+1,e,by omega,f,g⟩
def ayc {ok:Nat->Prop}:∀{ps:List (Ty×Bool)} {x:Args ps} {vs:List Value},ed w ok ps x vs->vs.length=ps.length
 |[],_,vs,h=>by rw[show vs=[] from h];rfl
 |a::l,x,vs,h=>by obtain⟨v,c,rfl,_,b⟩:=h;simp[ayc b]
def gh0 (w:World)(ok:Nat->Prop):Gh:={nw:=fun b=>w.heap.size<=b,own:=fun _=>none,hb:=fun _=>0,hv:=fun _=>undef,ok:=ok}
def aJN (w:World)(ok:Nat->Prop):fc:={w:=w,ok:=ok,nw:=fun b=>w.heap.size<=b,fr:=fun _=>False,hnw:=fun _ h=>h,hfr:=fun _ h=>h.elim}
def aA8 {G:Gh}{bx:List (Nat×List AC)}{bl:List (Nat×Option fN)}{cs:List CV}{vs:List Value}(hrel:ch (eF G w bx bl) cs vs){b t:Nat}{v:AV}(f:look (axO 0 cs) t=some v) :
  jP G w bx bl v ((vs.toArray++Array.replicate (b-vs.toArray.size) undef).getD t undef):=by
 obtain⟨i,c,d,g,rfl⟩:=att f;rw[wO]at d;subst d;obtain⟨y,e,h⟩:=hrel.nth g;have hlt:t<vs.length:=(wN.1 e).1;have:(vs.toArray++Array.replicate (b-vs.toArray.size) undef).getD t undef=y:=by rw[Po,Array.getElem?_append_left (by simpa using hlt)];simp[e]
 rw[this];exact h
def aLR {ok:Nat->Prop}{ps:List (Ty×Bool)}(e:eE ps=true){x:Args ps}{vs:List Value}(c:ed w ok ps x vs){nt:Nat}(p:ps.length<=nt) :
  Inv (aJN w ok) (gh0 w ok) {nt:=nt,tm:=axO 0 (aK2 ps x),bx:=[],bl:=[]} {tmps:=vs.toArray++Array.replicate (nt-vs.toArray.size) undef,defers:=[]} w:=by
 have hlen:=ayc c;have f:ed w (RO (gh0 w ok) false) ps x vs:=kt (fun g h=>⟨rfl,.inr ⟨rfl,h⟩⟩) c;have hrel:=Dk (bx:=[]) (bl:=[]) e f;refine⟨rfl,rfl,eY.refl _ _,rfl,?_,trivial,fun g b q i=>(by cases i),?_,?_,?_,?_⟩
 .simp[hlen];omega
 .exact fun t v j=>aA8 hrel j
 .intro d l m;simp[look]at m
 .intro id b n;simp[look]at n
 .intro g k o;simp[gh0]at o
def avB {T : Tab} (D : ∀ f con, C f = some con → tg P T f con) {f : FuncId} {k : Func} {con : Con} (n : P.funcs[f]? = some k) (E : (k.name == "runtime.NumGoroutine") = false) (u : k.body.isNone = false)
  (H:Nat->Option Hint) (F:∀x r,con.g x=some r->∃N,aJ3 P C (rH.RJ N) H k con.ps con.rs con.m x=some r):atf P T f con:=by
 refine⟨⟨k,n,E,u⟩,fun x r d w I ok Z K=>?_⟩;obtain⟨N,q⟩:=F x r d;obtain⟨s,q⟩:=aX q;simp only[aG]at s;obtain⟨c,y⟩:∃c,k.body=some c:=by
  cases h:k.body with
  |none=>rw[h]at u;cases u|some c=>exact⟨c,rfl⟩
 have L:eW k=c:=by simp[eW,y]
 rw[L]at q;refine calls_of_wp n y (rO (w0:=aJN w ok) (fun f con n=>(D f con n).at I fun _ h=>h.elim) H c ((aLR s.1.1.2 K (F9 s.1.1.1)).aAM (as8 H)) q fun e t dd M o i j=>?_);have post:∀e,e=Exit.normal\/e=Exit.ret->(match RL P dd k.results.toList with
   |some l=>match gM dd con.m [] (aV l)&&(match con.m with|2=>x9 dd con.rs l|_=>true) with
    |true=>Cb dd con.rs l|false=>none
   |none=>none)=some r->bodyPost P k (fun e o=>∃us,e=.returned (fp us)/\ZS ok w o con r us/\Below w.heap.size w o) e M o:=by
  intro e O j;split at j
  .rename_i l Q;split at j
   .rename_i df;rw[aG]at df;obtain⟨us,v,z⟩:=VS (P:=P) i Q;have R:t.nw=fun b=>w.heap.size<=b:=i.nw
    have S:t.ok=ok:=i.rok;have p:∀g,t.nw g->w.heap.size<=g:=fun g d=>by rw[R]at d;exact d
    have A:∃B,Ending.returned (fp us)=.returned (fp B)/\ZS ok w o con r B/\Below w.heap.size w o:=by
     refine⟨_,rfl,?_,i.below.below fun _ h=>h⟩;unfold ZS;split
     .rename_i m;rw[m]at df;exact agK i v df.1 j (fun f g _ d=>d.2.elim (fun h=>.inl (p g h)) fun h=>.inr (by rw[<-S];exact h.2)) (fun g id d=>.inl (p g (i.Vz d))) (.inl rfl)
     .rename_i m;rw[m]at df;exact agK i v df.1 j (fun f g n d=>d.2.elim (p g) fun h=>by rw[n (by simp)]at h;cases h.1) (fun g id d=>p g (i.Vz d)) (.inr rfl)
     .rename_i W X;by_cases m:con.m=2
      .rw[m]at df;refine⟨cg t (aV l),fun g Y d=>?_,?_⟩
       .unfold cg at d;split at d
        .rename_i id hid;exact p g (i.Vz hid)
        .cases d
       .exact(H5 (.inl rfl) (fun g d=>⟨d.2.elim (p g) (fun h=>by have:=h.1;simp[m2]at this),by simp[cg,d.1]⟩) i (aV l) [] con.rs l us r v (pre:=[]) (seen:=[]) (by simp) (fun id len m=>by simp at m) (by rw[fh];exact df.1) df.2 j).1
      .have:=F9 s.2;have qd:con.m≠0:=W;have qe:con.m≠1:=X;omega
    rcases O with rfl|rfl
    .exact bodyPost_end z i.defers A
    .exact bodyPost_ret z i.defers A
   .cases j
  .cases j
 cases e with
 |norm=>exact post .normal (.inl rfl) j|ret=>exact post .ret (.inr rfl) j|exit Y=>cases j
end
end Go.Am
