/- No condition. -/
import Derived.Test.YtfapcfpkbahneaaGreatDoorQpAmCode
set_option linter.all false
namespace Go.Am
open Go.RowKit
section
variable {N:Nat} {P:Program} {C:FuncId->Option Any} {w0:fR} {w:World} {G:Gh} {st:St} {a:Act}
def avI (a:Act):ResultVar->Sem Value
 |.tmp t=>pure (a.tmps.getD t undef)|.cell b t=>do loadVar t (<-asAddr (a.tmps.getD b undef))
def aFn (h:Inv w0 G st a w){r:ResultVar}{c:CV}(hc:aGN P st r=some c) :
  ∃u,fv G w st.bx st.bl c u/\(avI a r).run P w=.ok u w:=by
 cases r with
 |tmp t =>
  cases hc;exact⟨_,h.eZ (.tmp t),rfl⟩
 |cell b t =>
  simp only[aGN]at hc;split at hc
  .rename_i l off hcell;obtain⟨g,q,vs,hp,hcs,hrel⟩:=Vc h (h.ac (.tmp b)) hcell;have eB:=(hrel.drop off).take (P.cellsOf t);have yB:eG w g (q+off) ((vs.drop off).take (P.cellsOf t)):=hcs.drop.take;have hlen:=eB.len;have hp:a.tmps.getD b undef=.pointer (some ⟨g,q+off,none⟩):=hp;split at hc
   .rename_i hn;have hn':=aP hn;split at hc
    .rename_i nT;cases hc;have hrun:=EC (P:=P) yB (by omega) (.inr trivial) nT;obtain⟨i,hi⟩:=ED nT;simp only[hi]at hrun;exact⟨_,⟨_,rfl,eB⟩,by simp[avI,hp,asAddr,hrun]⟩
    .rename_i nT;have hrun:=EC (P:=P) yB (by omega) (.inr trivial) nT;split at hc
     .rename_i y hy;cases hc;rw[hy]at eB;obtain⟨u,hu⟩:∃u,(vs.drop off).take (P.cellsOf t)=[u]:=by
       cases hm:(vs.drop off).take (P.cellsOf t) with
       |nil=>rw[hm]at eB;exact eB.elim
       |cons u m =>
        rw[hm]at eB;cases m with
        |nil=>exact⟨u,rfl⟩|cons _ _=>exact eB.2.elim
      rw[hu]at eB yB;have hcu:=yB 0 u rfl;rw[Ri]at hcu;exact⟨u,eB.1,by simp[avI,hp,asAddr,hrun,hcu]⟩
     .cases hc
    .cases hc
   .cases hc
  .cases hc
def Vx (h:Inv w0 G st a w){fn:Func}{l:List CV}(hc:Rn P st fn.results.toList=some l):∃us,cT (fv G w st.bx st.bl) l us/\(results fn a.tmps).run P w=.ok (ga us) w:=by
 have key:∀(rs:List ResultVar) (l:List CV),Rn P st rs=some l->∃us,cT (fv G w st.bx st.bl) l us /\
   ∀(f:ResultVar->Sem Value),(∀r,f r=avI a r)->(rs.mapM f).run P w=.ok us w:=by
  intro rs
  induction rs with
  |nil=>intro l h;cases h;exact⟨[],trivial,fun f _=>rfl⟩
  |cons x rs ih =>
   intro l hl;simp only[Rn]at hl;split at hl
   .rename_i c hc;split at hl
    .rename_i cs hcs;cases hl;obtain⟨u,h1,h2⟩:=aFn h hc;obtain⟨us,h3,h4⟩:=ih cs hcs;refine⟨u::us,⟨h1,h3⟩,fun f hf=>?_⟩;rw[List.mapM_cons,hf];simp only[Sem.run_bind,Sem.run_pure,Result.andThen_ok,h2,h4 f hf]
    .cases hl
   .cases hl
 obtain⟨us,h1,h2⟩:=key _ _ hc;refine⟨us,h1,?_⟩;unfold results;rw[Array.mapM_eq_mapM_toList];simp only[Sem.run_bind,Sem.run_map,Sem.run_pure];rw[h2 _ (fun r=>by cases r<;>rfl)];simp only[Result.andThen_ok]
 congr 1
 cases us with
 |nil=>rfl
 |cons v vs =>
  cases vs with
  |nil=>rfl|cons v' vs=>simp[ga]
def atD {m:Nat}(l:List AC):∀{seen:List Nat},iB st m seen l=true->∀c∈l,match c with
  |.own id _=>∃b,st.rZ id=some b/\(m≠0->m≠3->b.f=true)|.ro f _ _ _=>m=1->f=true|_=>True:=by
 induction l with
 |nil=>intro _ _ c hc;simp at hc
 |cons x l ih =>
  intro seen h c hc;rcases dE.1 hc with hc'|hc'
  .subst hc';cases c with
   |own id len =>
    simp only[iB]at h;split at h
    .rename_i b hb;simp only[aI,kE]at h;exact⟨b,hb,fun hm hm3=>(h.1.1.resolve_right fun e=>hm3 (aP e)).resolve_right fun e=>hm (aP e)⟩
    .cases h
   |ro f e t xs =>
    simp only[iB,aI]at h;intro hm;subst hm;exact h.1
   |_=>trivial
  .cases x with
   |own id len =>
    simp only[iB]at h;split at h
    .rename_i b hb;simp only[aI]at h;exact ih h.2 c hc'
    .cases h
   |ro f e t xs =>
    simp only[iB,aI]at h;exact ih h.2 c hc'
   |_=>exact ih (seen:=seen) h c hc'
def af8 (h:Inv w0 G st a w){m:Nat}{rs:List (Ty×Bool)}{l:List CV}{us:List Value}(hus:cT (fv G w st.bx st.bl) l us){r:Args rs}(dZ:iB st m [] (aW l)=true)(hi:BE st rs l=some r){ok:Nat->Prop}
  (h0:∀f g,(m≠0->f=true)->RO G f g->ok g) (h1:∀g id,G.own g=some (.bl id)->ok g) (hm:m=0\/m=1):e8 w ok rs r us:=by
 refine aDu h rs l us r hus (fun t c v xs hc hr hd=>?_) hi;have w9:=atD _ dZ c hc;refine kL h hr hd (fun id len b hcc hl=>?_) (fun f e u ys hcc=>?_)
 .subst hcc;obtain⟨b',CL,hf⟩:=w9;have:=fw CL;rw[hl]at this;have:=fJ (fJ this);subst this;refine⟨fun g=>h0 b.f g fun h0=>hf h0 (by rcases hm with rfl|rfl<;>simp),fun hw g hg=>?_⟩;obtain⟨cs,h2,h3,h4⟩:=(h.bl id b hl).wr hw;exact h1 g id (h3 g hg)
 .subst hcc;intro g;refine h0 f g fun hm0=>w9 (hm.resolve_left hm0)
def atE:∀{l:List CV} {i t:Nat} {v:AV},look (axU i l) t=some v->∃j c,t=i+j/\og l j=some c/\v=.v c
 |[],i,t,v,h=>by simp[axU,look]at h
 |c::l,i,t,v,h=>by
  simp only[axU]at h;rw[aw]at h;by_cases hi:i=t
  .simp only[hi,iA]at h;cases h;exact⟨0,c,by omega,rfl,rfl⟩
  .simp only[hi,hZ]at h;obtain⟨j,c',h1,h2,h3⟩:=atE h;exact⟨j+1,c',by omega,h2,h3⟩
def ayp {ok:Nat->Prop}:∀{ps:List (Ty×Bool)} {x:Args ps} {vs:List Value},e8 w ok ps x vs->vs.length=ps.length
 |[],_,vs,h=>by rw[show vs=[] from h];rfl
 |a::l,x,vs,h=>by obtain⟨v,vs',rfl,_,h2⟩:=h;simp[ayp h2]
def gh0 (w:World)(ok:Nat->Prop):Gh:={nw:=fun b=>w.heap.size<=b,own:=fun _=>none,hb:=fun _=>0,hv:=fun _=>undef,ok:=ok}
def aLs (w:World)(ok:Nat->Prop):fR:={w:=w,ok:=ok,nw:=fun b=>w.heap.size<=b,fr:=fun _=>False,hnw:=fun _ h=>h,hfr:=fun _ h=>h.elim}
def aBD {G:Gh}{bx:List (Nat×List AC)}{bl:List (Nat×Option gB)}{cs:List CV}{vs:List Value}(hrel:cT (fv G w bx bl) cs vs){nt t:Nat}{v:AV}(hv:look (axU 0 cs) t=some v) :
  kf G w bx bl v ((vs.toArray++Array.replicate (nt-vs.toArray.size) undef).getD t undef):=by
 obtain⟨j,c,h1,h2,rfl⟩:=atE hv;rw[xK]at h1;subst h1;obtain⟨y,hy,hr⟩:=hrel.nth h2;have hlt:t<vs.length:=(xJ.1 hy).1;have:(vs.toArray++Array.replicate (nt-vs.toArray.size) undef).getD t undef=y:=by rw[OP,Array.getElem?_append_left (by simpa using hlt)];simp[hy]
 rw[this];exact hr
def aQw {ok:Nat->Prop}{ps:List (Ty×Bool)}(hf:fu ps=true){x:Args ps}{vs:List Value}(hx:e8 w ok ps x vs){nt:Nat}(hn:ps.length<=nt) :
  Inv (aLs w ok) (gh0 w ok) {nt:=nt,tm:=axU 0 (aNw ps x),bx:=[],bl:=[]} {tmps:=vs.toArray++Array.replicate (nt-vs.toArray.size) undef,defers:=[]} w:=by
 have hlen:=ayp hx;have kz:e8 w (RO (gh0 w ok) false) ps x vs:=kM (fun g hg=>⟨rfl,.inr ⟨rfl,hg⟩⟩) hx;have hrel:=CO (bx:=[]) (bl:=[]) hf kz;refine⟨rfl,rfl,fK.refl _ _,rfl,?_,trivial,fun g b o hm=>(by cases hm),?_,?_,?_,?_⟩
 .simp[hlen];omega
 .exact fun t v hv=>aBD hrel hv
 .intro d l hl;simp[look]at hl
 .intro id b hb;simp[look]at hb
 .intro g k hk;simp[gh0]at hk
def avJ {T : Tab} (hC : ∀ f con, C f = some con → tX P T f con) {f : FuncId} {fn : Func} {con : Con} (hf : P.funcs[f]? = some fn) (hn : (fn.name == "runtime.NumGoroutine") = false) (hb : fn.body.isNone = false)
  (H:Nat->Option Hint) (hrun:∀x r,con.g x=some r->∃N,aLR P C (sd.Rm N) H fn con.ps con.rs con.m x=some r):ato P T f con:=by
 refine⟨⟨fn,hf,hn,hb⟩,fun x r hg w hTw ok vs hargs=>?_⟩;obtain⟨N,hr⟩:=hrun x r hg;obtain⟨hc,hr⟩:=aY hr;simp only[aI]at hc;obtain⟨c,aiQ⟩:∃c,fn.body=some c:=by
  cases h:fn.body with
  |none=>rw[h]at hb;cases hb|some c=>exact⟨c,rfl⟩
 have ayq:oh fn=c:=by simp[oh,aiQ]
 rw[ayq]at hr;refine calls_of_wp hf aiQ (sj (w0:=aLs w ok) (fun f con hf=>(hC f con hf).at hTw fun _ h=>h.elim) H c ((aQw hc.1.1.2 hargs (Fz hc.1.1.1)).aBa (atd H)) hr fun e G' dV a' w' h' l4=>?_);have post:∀e,e=Exit.normal\/e=Exit.ret->(match Rn P dV fn.results.toList with
   |some l=>match iB dV con.m [] (aW l)&&(match con.m with|2=>yw dV con.rs l|_=>true) with
    |true=>BE dV con.rs l|false=>none
   |none=>none)=some r->bodyPost P fn (fun e w'=>∃us,e=.returned (ga us)/\Zh ok w w' con r us/\Below w.heap.size w w') e a' w':=by
  intro e he l4;split at l4
  .rename_i l hl;split at l4
   .rename_i dZ;rw[aI]at dZ;obtain⟨us,hus,df⟩:=Vx (P:=P) h' hl;have EB:G'.nw=fun b=>w.heap.size<=b:=h'.nw
    have aQx:G'.ok=ok:=h'.rok;have aFo:∀g,G'.nw g->w.heap.size<=g:=fun g hg=>by rw[EB]at hg;exact hg
    have hR:∃us',Ending.returned (ga us)=.returned (ga us')/\Zh ok w w' con r us'/\Below w.heap.size w w':=by
     refine⟨_,rfl,?_,h'.below.below fun _ h=>h⟩;unfold Zh;split
     .rename_i hm;rw[hm]at dZ;exact af8 h' hus dZ.1 l4 (fun f g _ hg=>hg.2.elim (fun h=>.inl (aFo g h)) fun h=>.inr (by rw[<-aQx];exact h.2)) (fun g id hg=>.inl (aFo g (h'.U9 hg))) (.inl rfl)
     .rename_i hm;rw[hm]at dZ;exact af8 h' hus dZ.1 l4 (fun f g hf hg=>hg.2.elim (aFo g) fun h=>by rw[hf (by simp)]at h;cases h.1) (fun g id hg=>aFo g (h'.U9 hg)) (.inr rfl)
     .rename_i hm0 hm1;by_cases hm:con.m=2
      .rw[hm]at dZ;refine⟨cS G' (aW l),fun g j hg=>?_,?_⟩
       .unfold cS at hg;split at hg
        .rename_i id hid;exact aFo g (h'.U9 hid)
        .cases hg
       .exact(Hv (.inl rfl) (fun g hg=>⟨hg.2.elim (aFo g) (fun h=>by have:=h.1;simp[m2]at this),by simp[cS,hg.1]⟩) h' (aW l) [] con.rs l us r hus (pre:=[]) (seen:=[]) (by simp) (fun id len hm=>by simp at hm) (by rw[iz];exact dZ.1) dZ.2 l4).1
      .have:=Fz hc.2;have aST:con.m≠0:=hm0;have aSU:con.m≠1:=hm1;omega
    rcases he with rfl|rfl
    .exact bodyPost_end df h'.defers hR
    .exact bodyPost_ret df h'.defers hR
   .cases l4
  .cases l4
 cases e with
 |norm=>exact post .normal (.inl rfl) l4|ret=>exact post .ret (.inr rfl) l4|exit j=>cases l4
end
end Go.Am
