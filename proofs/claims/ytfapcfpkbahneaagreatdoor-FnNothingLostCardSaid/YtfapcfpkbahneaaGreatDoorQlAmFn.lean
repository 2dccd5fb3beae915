/- Lemmas for the claim. No condition. -/
import Derived.Test.YtfapcfpkbahneaaGreatDoorQlAmCode
set_option linter.all false
namespace Go.Am
open Go.RowKit
section
variable {N:Nat} {P:Program} {C:FuncId→Option Any} {w0:fK} {w:World} {G:Gh} {st:St} {a:Act}
def atU (a:Act):ResultVar→Sem Value
 |.tmp t=>pure (a.tmps.getD t undef)
 |.cell b t=>do loadVar t (←asAddr (a.tmps.getD b undef))
theorem aDq (h:Inv w0 G st a w){r:ResultVar}{c:CV}(hc:aEQ P st r=some c) :
  ∃u,fk G w st.bx st.bl c u∧(atU a r).run P w=.ok u w:=by
 cases r with
 |tmp t =>
  cases hc
  exact⟨_,h.eT (.tmp t),rfl⟩
 |cell b t =>
  simp only[aEQ]at hc
  split at hc
  ·rename_i l off hcell
   obtain⟨g,q,vs,hp,hcs,hrel⟩:=T5 h (h.ac (.tmp b)) hcell
   have ei:=(hrel.drop off).take (P.cellsOf t)
   have x4:ez w g (q+off) ((vs.drop off).take (P.cellsOf t)):=hcs.drop.take
   have hlen:=ei.len
   have hp:a.tmps.getD b undef=.pointer (some ⟨g,q+off,none⟩):=hp
   split at hc
   ·rename_i hn
    have hn':=aN hn
    split at hc
    ·rename_i nC
     cases hc
     have hrun:=DT (P:=P) x4 (by omega) (.inr trivial) nC
     obtain⟨i,hi⟩:=DU nC
     simp only[hi]at hrun
     exact⟨_,⟨_,rfl,ei⟩,by simp[atU,hp,asAddr,hrun]⟩
    ·rename_i nC
     have hrun:=DT (P:=P) x4 (by omega) (.inr trivial) nC
     split at hc
     ·rename_i y hy
      cases hc
      rw[hy]at ei
      obtain⟨u,hu⟩:∃u,(vs.drop off).take (P.cellsOf t)=[u]:=by
       cases hm:(vs.drop off).take (P.cellsOf t) with
       |nil=>rw[hm]at ei;exact ei.elim
       |cons u m =>
        rw[hm]at ei
        cases m with
        |nil=>exact⟨u,rfl⟩
        |cons _ _=>exact ei.2.elim
      rw[hu]at ei x4
      have hcu:=x4 0 u rfl
      rw[abL]at hcu
      exact⟨u,ei.1,by simp[atU,hp,asAddr,hrun,hcu]⟩
     ·cases hc
    ·cases hc
   ·cases hc
  ·cases hc
theorem Uq (h:Inv w0 G st a w){fn:Func}{l:List CV}(hc:Qx P st fn.results.toList=some l):∃us,cR (fk G w st.bx st.bl) l us∧(results fn a.tmps).run P w=.ok (fT us) w:=by
 have key:∀(rs:List ResultVar) (l:List CV),Qx P st rs=some l→∃us,cR (fk G w st.bx st.bl) l us ∧
   ∀(f:ResultVar→Sem Value),(∀r,f r=atU a r)→(rs.mapM f).run P w=.ok us w:=by
  intro rs
  induction rs with
  |nil=>intro l h;cases h;exact⟨[],trivial,fun f _=>rfl⟩
  |cons x rs ih =>
   intro l hl
   simp only[Qx]at hl
   split at hl
   ·rename_i c hc
    split at hl
    ·rename_i cs hcs
     cases hl
     obtain⟨u,h1,h2⟩:=aDq h hc
     obtain⟨us,h3,h4⟩:=ih cs hcs
     refine⟨u::us,⟨h1,h3⟩,fun f hf=>?_⟩
     rw[List.mapM_cons,hf]
     simp only[Sem.run_bind,Sem.run_pure,Result.andThen_ok,h2,h4 f hf]
    ·cases hl
   ·cases hl
 obtain⟨us,h1,h2⟩:=key _ _ hc
 refine⟨us,h1,?_⟩
 unfold results
 rw[Array.mapM_eq_mapM_toList]
 simp only[Sem.run_bind,Sem.run_map,Sem.run_pure]
 rw[h2 _ (fun r=>by cases r<;>rfl)]
 simp only[Result.andThen_ok]
 congr 1
 cases us with
 |nil=>rfl
 |cons v vs =>
  cases vs with
  |nil=>rfl
  |cons v' vs=>simp[fT]
theorem ar2 {m:Nat}(l:List AC):∀{seen:List Nat},il st m seen l=true→∀c∈l,match c with
  |.own id _=>∃b,st.rP id=some b∧(m≠0→m≠3→b.f=true)
  |.ro f _ _ _=>m=1→f=true
  |_=>True:=by
 induction l with
 |nil=>intro _ _ c hc;simp at hc
 |cons x l ih =>
  intro seen h c hc
  rcases gU.1 hc with hc'|hc'
  ·subst hc'
   cases c with
   |own id len =>
    simp only[il]at h
    split at h
    ·rename_i b hb
     simp only[aJ,mh]at h
     exact⟨b,hb,fun hm hm3=>(h.1.1.resolve_right fun e=>hm3 (aN e)).resolve_right fun e=>hm (aN e)⟩
    ·cases h
   |ro f e t xs =>
    simp only[il,aJ]at h
    intro hm
    subst hm
    exact h.1
   |_=>trivial
  ·cases x with
   |own id len =>
    simp only[il]at h
    split at h
    ·rename_i b hb
     simp only[aJ]at h
     exact ih h.2 c hc'
    ·cases h
   |ro f e t xs =>
    simp only[il,aJ]at h
    exact ih h.2 c hc'
   |_=>exact ih (seen:=seen) h c hc'
theorem ae7 (h:Inv w0 G st a w){m:Nat}{rs:List (Ty×Bool)}{l:List CV}{us:List Value}(hus:cR (fk G w st.bx st.bl) l us){r:Args rs}(dS:il st m [] (aU l)=true)(hi:A7 st rs l=some r){ok:Nat→Prop}
  (h0:∀f g,(m≠0→f=true)→RO G f g→ok g) (h1:∀g id,G.own g=some (.bl id)→ok g) (hm:m=0∨m=1):eU w ok rs r us:=by
 refine aBB h rs l us r hus (fun t c v xs hc hr hd=>?_) hi
 have Ba:=ar2 _ dS c hc
 refine kt h hr hd (fun id len b hcc hl=>?_) (fun f e u ys hcc=>?_)
 ·subst hcc
  obtain⟨b',Cf,hf⟩:=Ba
  have:=fm Cf
  rw[hl]at this
  have:=fR (fR this)
  subst this
  refine⟨fun g=>h0 b.f g fun h0=>hf h0 (by rcases hm with rfl|rfl<;>simp),fun hw g hg=>?_⟩
  obtain⟨cs,h2,h3,h4⟩:=(h.bl id b hl).wr hw
  exact h1 g id (h3 g hg)
 ·subst hcc
  intro g
  refine h0 f g fun hm0=>Ba (hm.resolve_left hm0)
theorem ar3:∀{l:List CV} {i t:Nat} {v:AV},look (av7 i l) t=some v→∃j c,t=i+j∧nN l j=some c∧v=.v c
 |[],i,t,v,h=>by simp[av7,look]at h
 |c::l,i,t,v,h=>by
  simp only[av7]at h
  rw[aw]at h
  by_cases hi:i=t
  ·simp only[hi,ik]at h
   cases h
   exact⟨0,c,by omega,rfl,rfl⟩
  ·simp only[hi,gV]at h
   obtain⟨j,c',h1,h2,h3⟩:=ar3 h
   exact⟨j+1,c',by omega,h2,h3⟩
theorem awC {ok:Nat→Prop}:∀{ps:List (Ty×Bool)} {x:Args ps} {vs:List Value},eU w ok ps x vs→vs.length=ps.length
 |[],_,vs,h=>by rw[show vs=[] from h];rfl
 |a::l,x,vs,h=>by
  obtain⟨v,vs',rfl,_,h2⟩:=h
  simp[awC h2]
def gh0 (w:World)(ok:Nat→Prop):Gh:={nw:=fun b=>w.heap.size≤b,own:=fun _=>none,hb:=fun _=>0,hv:=fun _=>undef,ok:=ok}
def aJe (w:World)(ok:Nat→Prop):fK:={w:=w,ok:=ok,nw:=fun b=>w.heap.size≤b,fr:=fun _=>False,hnw:=fun _ h=>h,hfr:=fun _ h=>h.elim}
theorem azC {G:Gh}{bx:List (Nat×List AC)}{bl:List (Nat×Option gq)}{cs:List CV}{vs:List Value}(hrel:cR (fk G w bx bl) cs vs){nt t:Nat}{v:AV}(hv:look (av7 0 cs) t=some v) :
  jW G w bx bl v ((vs.toArray++Array.replicate (nt-vs.toArray.size) undef).getD t undef):=by
 obtain⟨j,c,h1,h2,rfl⟩:=ar3 hv
 rw[w8]at h1
 subst h1
 obtain⟨y,hy,hr⟩:=hrel.nth h2
 have hlt:t<vs.length:=(xQ.1 hy).1
 have:(vs.toArray++Array.replicate (nt-vs.toArray.size) undef).getD t undef=y:=by
  rw[N2,Array.getElem?_append_left (by simpa using hlt)]
  simp[hy]
 rw[this]
 exact hr
theorem aOi {ok:Nat→Prop}{ps:List (Ty×Bool)}(hf:fj ps=true){x:Args ps}{vs:List Value}(hx:eU w ok ps x vs){nt:Nat}(hn:ps.length≤nt) :
  Inv (aJe w ok) (gh0 w ok) {nt:=nt,tm:=av7 0 (aLj ps x),bx:=[],bl:=[]} {tmps:=vs.toArray++Array.replicate (nt-vs.toArray.size) undef,defers:=[]} w:=by
 have hlen:=awC hx
 have kc:eU w (RO (gh0 w ok) false) ps x vs:=ku (fun g hg=>⟨rfl,.inr ⟨rfl,hg⟩⟩) hx
 have hrel:=Ci (bx:=[]) (bl:=[]) hf kc
 refine⟨rfl,rfl,fE.refl _ _,rfl,?_,trivial,fun g b o hm=>(by cases hm),?_,?_,?_,?_⟩
 ·simp[hlen];omega
 ·exact fun t v hv=>azC hrel hv
 ·intro d l hl;simp[look]at hl
 ·intro id b hb;simp[look]at hb
 ·intro g k hk;simp[gh0]at hk
theorem atV {T : Tab} (hC : ∀ f con, C f = some con → tD P T f con) {f : FuncId} {fn : Func} {con : Con} (hf : P.funcs[f]? = some fn) (hn : (fn.name == "runtime.NumGoroutine") = false) (hb : fn.body.isNone = false)
  (H:Nat→Option Hint) (hrun:∀x r,con.g x=some r→∃N,aJB P C (rQ.Qw N) H fn con.ps con.rs con.m x=some r):arN P T f con:=by
 refine⟨⟨fn,hf,hn,hb⟩,fun x r hg w hTw ok vs hargs=>?_⟩
 obtain⟨N,hr⟩:=hrun x r hg
 obtain⟨hc,hr⟩:=aX hr
 simp only[aJ]at hc
 obtain⟨c,ahG⟩:∃c,fn.body=some c:=by
  cases h:fn.body with
  |none=>rw[h]at hb;cases hb
  |some c=>exact⟨c,rfl⟩
 have awD:nO fn=c:=by simp[nO,ahG]
 rw[awD]at hr
 refine calls_of_wp hf ahG (rW (w0:=aJe w ok) (fun f con hf=>(hC f con hf).at hTw fun _ h=>h.elim) H c ((aOi hc.1.1.2 hargs (E1 hc.1.1.1)).ay9 (arC H)) hr fun e G' dL a' w' h' lK=>?_)
 have post:∀e,e=Exit.normal∨e=Exit.ret→(match Qx P dL fn.results.toList with
   |some l=>match il dL con.m [] (aU l)&&(match con.m with|2=>xV dL con.rs l|_=>true) with
    |true=>A7 dL con.rs l
    |false=>none
   |none=>none)=some r→bodyPost P fn (fun e w'=>∃us,e=.returned (fT us)∧Yd ok w w' con r us∧Below w.heap.size w w') e a' w':=by
  intro e he lK
  split at lK
  ·rename_i l hl
   split at lK
   ·rename_i dS
    rw[aJ]at dS
    obtain⟨us,hus,dd⟩:=Uq (P:=P) h' hl
    have DS:G'.nw=fun b=>w.heap.size≤b:=h'.nw
    have aOj:G'.ok=ok:=h'.rok
    have aDr:∀g,G'.nw g→w.heap.size≤g:=fun g hg=>by rw[DS]at hg;exact hg
    have hR:∃us',Ending.returned (fT us)=.returned (fT us')∧Yd ok w w' con r us'∧Below w.heap.size w w':=by
     refine⟨_,rfl,?_,h'.below.below fun _ h=>h⟩
     unfold Yd
     split
     ·rename_i hm
      rw[hm]at dS
      exact ae7 h' hus dS.1 lK (fun f g _ hg=>hg.2.elim (fun h=>.inl (aDr g h)) fun h=>.inr (by rw[←aOj];exact h.2)) (fun g id hg=>.inl (aDr g (h'.T2 hg))) (.inl rfl)
     ·rename_i hm
      rw[hm]at dS
      exact ae7 h' hus dS.1 lK (fun f g hf hg=>hg.2.elim (aDr g) fun h=>by rw[hf (by simp)]at h;cases h.1) (fun g id hg=>aDr g (h'.T2 hg)) (.inr rfl)
     ·rename_i hm0 hm1
      by_cases hm:con.m=2
      ·rw[hm]at dS
       refine⟨cQ G' (aU l),fun g j hg=>?_,?_⟩
       ·unfold cQ at hg
        split at hg
        ·rename_i id hid
         exact aDr g (h'.T2 hid)
        ·cases hg
       ·exact(GR (.inl rfl) (fun g hg=>⟨hg.2.elim (aDr g) (fun h=>by have:=h.1;simp[m2]at this),by simp[cQ,hg.1]⟩) h' (aU l) [] con.rs l us r hus (pre:=[]) (seen:=[]) (by simp) (fun id len hm=>by simp at hm) (by rw[gE];exact dS.1) dS.2 lK).1
      ·have:=E1 hc.2
       have aQE:con.m≠0:=hm0
       have aQF:con.m≠1:=hm1
       omega
    rcases he with rfl|rfl
    ·exact bodyPost_end dd h'.defers hR
    ·exact bodyPost_ret dd h'.defers hR
   ·cases lK
  ·cases lK
 cases e with
 |norm=>exact post .normal (.inl rfl) lK
 |ret=>exact post .ret (.inr rfl) lK
 |exit j=>cases lK
end
end Go.Am
