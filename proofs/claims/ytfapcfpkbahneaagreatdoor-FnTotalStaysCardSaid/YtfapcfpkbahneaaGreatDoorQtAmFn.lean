/- Lemmas for the claim. No condition. -/
import Derived.Test.YtfapcfpkbahneaaGreatDoorQtAmCode
set_option linter.all false
namespace Go.Am
open Go.RowKit
section
variable {N:Nat} {P:Program} {C:FuncId->Option Any} {w0:fJ} {w:World} {G:Gh} {st:St} {a:Act}
def aut (a:Act):ResultVar->Sem Value
 |.tmp t=>pure (a.tmps.getD t undef)
 |.cell b t=>do loadVar t (<-asAddr (a.tmps.getD b undef))
theorem aDP (h:Inv w0 G st a w){r:ResultVar}{c:CV}(hc:aFa P st r=some c) :
  ∃u,fh G w st.bx st.bl c u/\(aut a r).run P w=.ok u w:=by
 cases r with
 |tmp t =>
  cases hc;exact⟨_,h.eP (.tmp t),rfl⟩
 |cell b t =>
  simp only[aFa]at hc;split at hc
  ·rename_i l off hcell;obtain⟨g,q,vs,hp,hcs,hrel⟩:=UC h (h.ac (.tmp b)) hcell;have ef:=(hrel.drop off).take (P.cellsOf t);have x9:ep w g (q+off) ((vs.drop off).take (P.cellsOf t)):=hcs.drop.take;have hlen:=ef.len;have hp:a.tmps.getD b undef=.pointer (some ⟨g,q+off,none⟩):=hp;split at hc
   ·rename_i hn;have hn':=aP hn;split at hc
    ·rename_i nK;cases hc;have hrun:=Ee (P:=P) x9 (by omega) (.inr trivial) nK;obtain⟨i,hi⟩:=Ef nK;simp only[hi]at hrun;exact⟨_,⟨_,rfl,ef⟩,by simp[aut,hp,asAddr,hrun]⟩
    ·rename_i nK;have hrun:=Ee (P:=P) x9 (by omega) (.inr trivial) nK;split at hc
     ·rename_i y hy;cases hc;rw[hy]at ef;obtain⟨u,hu⟩:∃u,(vs.drop off).take (P.cellsOf t)=[u]:=by
       cases hm:(vs.drop off).take (P.cellsOf t) with
       |nil=>rw[hm]at ef;exact ef.elim
       |cons u m =>
        rw[hm]at ef;cases m with
        |nil=>exact⟨u,rfl⟩
        |cons _ _=>exact ef.2.elim
      rw[hu]at ef x9;have hcu:=x9 0 u rfl;rw[acm]at hcu;exact⟨u,ef.1,by simp[aut,hp,asAddr,hrun,hcu]⟩
     ·cases hc
    ·cases hc
   ·cases hc
  ·cases hc
theorem UY (h:Inv w0 G st a w){fn:Func}{l:List CV}(hc:QZ P st fn.results.toList=some l):∃us,cT (fh G w st.bx st.bl) l us/\(results fn a.tmps).run P w=.ok (fS us) w:=by
 have key:∀(rs:List ResultVar) (l:List CV),QZ P st rs=some l->∃us,cT (fh G w st.bx st.bl) l us /\
   ∀(f:ResultVar->Sem Value),(∀r,f r=aut a r)->(rs.mapM f).run P w=.ok us w:=by
  intro rs
  induction rs with
  |nil=>intro l h;cases h;exact⟨[],trivial,fun f _=>rfl⟩
  |cons x rs ih =>
   intro l hl;simp only[QZ]at hl;split at hl
   ·rename_i c hc;split at hl
    ·rename_i cs hcs;cases hl;obtain⟨u,h1,h2⟩:=aDP h hc;obtain⟨us,h3,h4⟩:=ih cs hcs;refine⟨u::us,⟨h1,h3⟩,fun f hf=>?_⟩;rw[List.mapM_cons,hf];simp only[Sem.run_bind,Sem.run_pure,Result.andThen_ok,h2,h4 f hf]
    ·cases hl
   ·cases hl
 obtain⟨us,h1,h2⟩:=key _ _ hc;refine⟨us,h1,?_⟩;unfold results;rw[Array.mapM_eq_mapM_toList];simp only[Sem.run_bind,Sem.run_map,Sem.run_pure];rw[h2 _ (fun r=>by cases r<;>rfl)];simp only[Result.andThen_ok]
 congr 1
 cases us with
 |nil=>rfl
 |cons v vs =>
  cases vs with
  |nil=>rfl
  |cons v' vs=>simp[fS]
theorem asA {m:Nat}(l:List AC):∀{seen:List Nat},ij st m seen l=true->∀c∈l,match c with
  |.own id _=>∃b,st.rS id=some b/\(m≠0->m≠3->b.f=true)
  |.ro f _ _ _=>m=1->f=true
  |_=>True:=by
 induction l with
 |nil=>intro _ _ c hc;simp at hc
 |cons x l ih =>
  intro seen h c hc;rcases gS.1 hc with hc'|hc'
  ·subst hc';cases c with
   |own id len =>
    simp only[ij]at h;split at h
    ·rename_i b hb;simp only[aJ,mn]at h;exact⟨b,hb,fun hm hm3=>(h.1.1.resolve_right fun e=>hm3 (aP e)).resolve_right fun e=>hm (aP e)⟩
    ·cases h
   |ro f e t xs =>
    simp only[ij,aJ]at h;intro hm;subst hm;exact h.1
   |_=>trivial
  ·cases x with
   |own id len =>
    simp only[ij]at h;split at h
    ·rename_i b hb;simp only[aJ]at h;exact ih h.2 c hc'
    ·cases h
   |ro f e t xs =>
    simp only[ij,aJ]at h;exact ih h.2 c hc'
   |_=>exact ih (seen:=seen) h c hc'
theorem afG (h:Inv w0 G st a w){m:Nat}{rs:List (Ty×Bool)}{l:List CV}{us:List Value}(hus:cT (fh G w st.bx st.bl) l us){r:Args rs}(dO:ij st m [] (aU l)=true)(hi:Bn st rs l=some r){ok:Nat->Prop}
  (h0:∀f g,(m≠0->f=true)->RO G f g->ok g) (h1:∀g id,G.own g=some (.bl id)->ok g) (hm:m=0\/m=1):eQ w ok rs r us:=by
 refine aB1 h rs l us r hus (fun t c v xs hc hr hd=>?_) hi;have Bq:=asA _ dO c hc;refine kD h hr hd (fun id len b hcc hl=>?_) (fun f e u ys hcc=>?_)
 ·subst hcc;obtain⟨b',Cq,hf⟩:=Bq;have:=fi Cq;rw[hl]at this;have:=fQ (fQ this);subst this;refine⟨fun g=>h0 b.f g fun h0=>hf h0 (by rcases hm with rfl|rfl<;>simp),fun hw g hg=>?_⟩;obtain⟨cs,h2,h3,h4⟩:=(h.bl id b hl).wr hw;exact h1 g id (h3 g hg)
 ·subst hcc;intro g;refine h0 f g fun hm0=>Bq (hm.resolve_left hm0)
theorem asB:∀{l:List CV} {i t:Nat} {v:AV},look (awD i l) t=some v->∃j c,t=i+j/\nX l j=some c/\v=.v c
 |[],i,t,v,h=>by simp[awD,look]at h
 |c::l,i,t,v,h=>by
  simp only[awD]at h;rw[aw]at h;by_cases hi:i=t
  ·simp only[hi,ig]at h;cases h;exact⟨0,c,by omega,rfl,rfl⟩
  ·simp only[hi,gT]at h;obtain⟨j,c',h1,h2,h3⟩:=asB h;exact⟨j+1,c',by omega,h2,h3⟩
theorem aw9 {ok:Nat->Prop}:∀{ps:List (Ty×Bool)} {x:Args ps} {vs:List Value},eQ w ok ps x vs->vs.length=ps.length
 |[],_,vs,h=>by rw[show vs=[] from h];rfl
 |a::l,x,vs,h=>by obtain⟨v,vs',rfl,_,h2⟩:=h;simp[aw9 h2]
def gh0 (w:World)(ok:Nat->Prop):Gh:={nw:=fun b=>w.heap.size<=b,own:=fun _=>none,hb:=fun _=>0,hv:=fun _=>undef,ok:=ok}
def aJr (w:World)(ok:Nat->Prop):fJ:={w:=w,ok:=ok,nw:=fun b=>w.heap.size<=b,fr:=fun _=>False,hnw:=fun _ h=>h,hfr:=fun _ h=>h.elim}
theorem aAa {G:Gh}{bx:List (Nat×List AC)}{bl:List (Nat×Option gp)}{cs:List CV}{vs:List Value}(hrel:cT (fh G w bx bl) cs vs){nt t:Nat}{v:AV}(hv:look (awD 0 cs) t=some v) :
  j2 G w bx bl v ((vs.toArray++Array.replicate (nt-vs.toArray.size) undef).getD t undef):=by
 obtain⟨j,c,h1,h2,rfl⟩:=asB hv;rw[xf]at h1;subst h1;obtain⟨y,hy,hr⟩:=hrel.nth h2;have hlt:t<vs.length:=(xV.1 hy).1;have:(vs.toArray++Array.replicate (nt-vs.toArray.size) undef).getD t undef=y:=by rw[OB,Array.getElem?_append_left (by simpa using hlt)];simp[hy]
 rw[this];exact hr
theorem aOp {ok:Nat->Prop}{ps:List (Ty×Bool)}(hf:fg ps=true){x:Args ps}{vs:List Value}(hx:eQ w ok ps x vs){nt:Nat}(hn:ps.length<=nt) :
  Inv (aJr w ok) (gh0 w ok) {nt:=nt,tm:=awD 0 (aLo ps x),bx:=[],bl:=[]} {tmps:=vs.toArray++Array.replicate (nt-vs.toArray.size) undef,defers:=[]} w:=by
 have hlen:=aw9 hx;have kt:eQ w (RO (gh0 w ok) false) ps x vs:=kE (fun g hg=>⟨rfl,.inr ⟨rfl,hg⟩⟩) hx;have hrel:=Ct (bx:=[]) (bl:=[]) hf kt;refine⟨rfl,rfl,fB.refl _ _,rfl,?_,trivial,fun g b o hm=>(by cases hm),?_,?_,?_,?_⟩
 ·simp[hlen];omega
 ·exact fun t v hv=>aAa hrel hv
 ·intro d l hl;simp[look]at hl
 ·intro id b hb;simp[look]at hb
 ·intro g k hk;simp[gh0]at hk
theorem auu {T : Tab} (hC : ∀ f con, C f = some con → tJ P T f con) {f : FuncId} {fn : Func} {con : Con} (hf : P.funcs[f]? = some fn) (hn : (fn.name == "runtime.NumGoroutine") = false) (hb : fn.body.isNone = false)
  (H:Nat->Option Hint) (hrun:∀x r,con.g x=some r->∃N,aJP P C (rT.QY N) H fn con.ps con.rs con.m x=some r):asl P T f con:=by
 refine⟨⟨fn,hf,hn,hb⟩,fun x r hg w hTw ok vs hargs=>?_⟩;obtain⟨N,hr⟩:=hrun x r hg;obtain⟨hc,hr⟩:=aY hr;simp only[aJ]at hc;obtain⟨c,aii⟩:∃c,fn.body=some c:=by
  cases h:fn.body with
  |none=>rw[h]at hb;cases hb
  |some c=>exact⟨c,rfl⟩
 have axa:j1 fn=c:=by simp[j1,aii]
 rw[axa]at hr;refine calls_of_wp hf aii (rZ (w0:=aJr w ok) (fun f con hf=>(hC f con hf).at hTw fun _ h=>h.elim) H c ((aOp hc.1.1.2 hargs (Ff hc.1.1.1)).azH (ar9 H)) hr fun e G' dK a' w' h' lI=>?_);have post:∀e,e=Exit.normal\/e=Exit.ret->(match QZ P dK fn.results.toList with
   |some l=>match ij dK con.m [] (aU l)&&(match con.m with|2=>x4 dK con.rs l|_=>true) with
    |true=>Bn dK con.rs l
    |false=>none
   |none=>none)=some r->bodyPost P fn (fun e w'=>∃us,e=.returned (fS us)/\YS ok w w' con r us/\Below w.heap.size w w') e a' w':=by
  intro e he lI;split at lI
  ·rename_i l hl;split at lI
   ·rename_i dO;rw[aJ]at dO;obtain⟨us,hus,db⟩:=UY (P:=P) h' hl;have Ed:G'.nw=fun b=>w.heap.size<=b:=h'.nw
    have aOq:G'.ok=ok:=h'.rok;have aDQ:∀g,G'.nw g->w.heap.size<=g:=fun g hg=>by rw[Ed]at hg;exact hg
    have hR:∃us',Ending.returned (fS us)=.returned (fS us')/\YS ok w w' con r us'/\Below w.heap.size w w':=by
     refine⟨_,rfl,?_,h'.below.below fun _ h=>h⟩;unfold YS;split
     ·rename_i hm;rw[hm]at dO;exact afG h' hus dO.1 lI (fun f g _ hg=>hg.2.elim (fun h=>.inl (aDQ g h)) fun h=>.inr (by rw[<-aOq];exact h.2)) (fun g id hg=>.inl (aDQ g (h'.Uz hg))) (.inl rfl)
     ·rename_i hm;rw[hm]at dO;exact afG h' hus dO.1 lI (fun f g hf hg=>hg.2.elim (aDQ g) fun h=>by rw[hf (by simp)]at h;cases h.1) (fun g id hg=>aDQ g (h'.Uz hg)) (.inr rfl)
     ·rename_i hm0 hm1;by_cases hm:con.m=2
      ·rw[hm]at dO;refine⟨cS G' (aU l),fun g j hg=>?_,?_⟩
       ·unfold cS at hg;split at hg
        ·rename_i id hid;exact aDQ g (h'.Uz hid)
        ·cases hg
       ·exact(Hb (.inl rfl) (fun g hg=>⟨hg.2.elim (aDQ g) (fun h=>by have:=h.1;simp[m2]at this),by simp[cS,hg.1]⟩) h' (aU l) [] con.rs l us r hus (pre:=[]) (seen:=[]) (by simp) (fun id len hm=>by simp at hm) (by rw[ie];exact dO.1) dO.2 lI).1
      ·have:=Ff hc.2;have aQL:con.m≠0:=hm0;have aQM:con.m≠1:=hm1;omega
    rcases he with rfl|rfl
    ·exact bodyPost_end db h'.defers hR
    ·exact bodyPost_ret db h'.defers hR
   ·cases lI
  ·cases lI
 cases e with
 |norm=>exact post .normal (.inl rfl) lI
 |ret=>exact post .ret (.inr rfl) lI
 |exit j=>cases lI
end
end Go.Am
