/- No condition. -/
import Derived.Test.YtfapcfpkbahneaaGreatDoorQpAmFn
set_option linter.all false
namespace Go.Am
open Go.RowKit
section
variable {N:Nat} {P:Program} {C:FuncId->Option Any} {w0:fR} {w:World} {G:Gh} {st:St} {a:Act}
def YL (ok nw:Nat->Prop)(own:Nat->Option Nat)(L:List (Nat×gB×Value))(B:Option (Nat×Nat×List AC)):Gh :=
 {nw:=nw,ok:=ok,hb:=fun _=>match B with|some (_,g0,_)=>g0|none=>0,hv:=fun i=>hvL L i,own:=fun g=>match own g with|none=>none|some _=>CP L B g}
def Vy:Option (Nat×Nat×List AC)->List (Nat×List AC)
 |none=>[]|some (d,_,l)=>[(d,l)]
def akj (L:List (Nat×gB×Value)):List (Nat×Option gB):=L.map fun z=>(z.1,some z.2.1)
structure avK (w:World) (ok nw:Nat->Prop) (own:Nat->Option Nat) (L:List (Nat×gB×Value)) (B:Option (Nat×Nat×List AC)):Prop where
 row:∀z∈L,z.2.1.w=true/\0<z.2.1.t.n/\(∃rows,w.ownsRow 0 z.2.1.e z.2.1.t.n z.2.2 z.2.1.xs.length rows/\fU w (fun g=>own g=none/\(nw g\/(z.2.1.f=false/\ok g))) z.2.1.t rows z.2.1.xs)/\∀g,z.2.2.ownBlock=some g->(own g).isSome=true
 inj:∀z∈L,∀z'∈L,∀g,z.2.2.ownBlock=some g->z'.2.2.ownBlock=some g->z=z'
 uniq:∀z∈L,∀z'∈L,z.1=z'.1->z=z'
 box:∀d g l,B=some (d,g,l)->(own g).isSome=true/\L=[]/\∃cs e f t x,w.heap[g]?=some (.cells cs e (0,0))/\l=ex f t x/\Rd w (fun g=>own g=none/\(nw g\/(f=false/\ok g))) t x cs.toList
def Vz {ok nw:Nat->Prop}{own:Nat->Option Nat}{L:List (Nat×gB×Value)}{B:Option (Nat×Nat×List AC)}{f:Bool}{g:Nat}(h:own g=none/\(nw g\/(f=false/\ok g))):RO (YL ok nw own L B) f g :=
 ⟨by simp[YL,h.1],h.2⟩
def atF {ok nw:Nat->Prop}{own:Nat->Option Nat}{Bd:Nat->Prop}(hh:Handed w Bd ok nw own){R:fR}(hhd:R.hd=fun _=>none)(hw:R.w=w)(dZ:R.ok=ok)(hnw:R.nw=nw){L:List (Nat×gB×Value)}{B:Option (Nat×Nat×List AC)}
  (hfr:∀g k,(YL ok nw own L B).own g=some k->R.fr g) (hS:avK w ok nw own L B) {nt:Nat} {tm:List (Nat×AV)} {sp:AV} (hd:a.defers=[]) (hs:a.tmps.size=nt)
  (Vr:kf (YL ok nw own L B) w (Vy B) (akj L) sp R.pv) (htm:∀t v,look tm t=some v->kf (YL ok nw own L B) w (Vy B) (akj L) v (a.tmps.getD t undef)) :
  Inv R (YL ok nw own L B) {nt:=nt,tm:=tm,bx:=Vy B,bl:=akj L,sp:=sp} a w:=by
 subst hw;have aOp:∀z∈L,∀g,z.2.2.ownBlock=some g->(YL ok nw own L B).own g=some (.bl z.1):=by
  intro z hz g hg;have ho:=(hS.row z hz).2.2.2 g hg;obtain⟨j,hj⟩:=mA.1 ho;have hB:B=none:=by
   cases B with
   |none=>rfl
   |some q =>
    obtain⟨d,g0,l⟩:=q;have:=(hS.box d g0 l rfl).2.1;rw[this]at hz;simp at hz
  subst hB;simp only[YL,hj,CP];unfold Ok;cases hf:L.find? fun z=>z.2.2.ownBlock==some g with
  |none =>
   have:=amG.1 hf z hz;simp[hg]at this
  |some y =>
   have h1:=aiu hf;have h2:=US hf;rw[<-hS.inj z hz y h2 g hg (by simpa using h1)];rfl
 refine⟨hnw.symm,dZ.symm,fK.refl _ _,hd,hs,Vr,fun g b o hm=>(by rw[hhd]at hm;cases hm),htm,fun d l hl=>?_,fun id b hb=>?_,fun g k hk=>?_⟩
 .cases B with
  |none=>simp[Vy,look]at hl
  |some q =>
   obtain⟨d0,g0,l0⟩:=q;simp only[Vy,aw]at hl;by_cases hdd:d0=d
   .rw[ai hdd]at hl;cases hl;subst hdd;obtain⟨h1,h2,cs,e,f,t,x,h3,h4,h5⟩:=hS.box d0 g0 l rfl;refine⟨cs,e,h3,?_,?_⟩
    .obtain⟨j,hj⟩:=mA.1 h1;simp[YL,hj,CP]
    .rw[h4];exact Vb (jE (fun g hg=>Vz (f:=f) hg) h5)
   .rw[ah hdd]at hl;simp[look]at hl
 .obtain⟨v,hv⟩:=ac8 hb;obtain⟨h1,h2,⟨rows,h3,h4⟩,h5⟩:=hS.row _ hv;have hhv:(YL ok nw own L B).hv id=v:=X4 hS.uniq hv;refine⟨fun _=>⟨rows,by rw[hhv];exact h3,fun g hg=>?_,mE (fun g hg=>Vz hg) h4⟩,fun hw=>?_,h2⟩
  .rw[hhv]at hg;exact aOp _ hv g hg
  .rw[show b.w=true from h1]at hw;cases hw
 .have hk0:=hk;unfold YL at hk;dsimp only at hk;cases ho:own g with
  |none=>rw[ho]at hk;cases hk
  |some j =>
   rw[ho]at hk;dsimp only at hk;refine⟨.inr (hfr g k hk0),(hh.bK g j ho).2.1,?_⟩;have rows:Ok L g=some k->aHe (YL ok nw own L B) (Vy B) (akj L) g k:=by
    intro hr;unfold Ok at hr;cases hf:L.find? fun z=>z.2.2.ownBlock==some g with
    |none=>rw[hf]at hr;cases hr
    |some y =>
     rw[hf]at hr;cases hr;have h1:=aiu hf;have h2:=US hf;refine⟨ld h2,?_⟩;rw[show(YL ok nw own L B).hv y.1=y.2.2 from X4 hS.uniq h2];simpa using h1
   cases B with
   |none=>have:=rows hk;cases k with|bx d=>exact this|bl id=>exact this|hid=>trivial
   |some q =>
    obtain⟨d0,g0,l0⟩:=q;simp only[CP]at hk;by_cases he:g=g0
    .rw[ai he]at hk;cases hk;exact⟨by simp[Vy,aw],by simp[YL,he]⟩
    .rw[ah he]at hk;have:=rows hk;cases k with|bx d=>exact this|bl id=>exact this|hid=>trivial
def aDE {f:Bool}{G:Gh}{bx:List (Nat×List AC)}{bl:List (Nat×Option gB)}{p:Ty×Bool}{x:p.1.D}{v:Value}(hp:p.2=true\/p.1.n=1)(h:ac6 w (RO G f) p x v) :
  fv G w bx bl (match p.2 with|true=>.agg (ex f p.1 x)|false=>.c (match ex f p.1 x with|[c]=>c|_=>.none)) v:=by
 have:=CO (f:=f) (bx:=bx) (bl:=bl) (rs:=[p]) (x:=(x,())) (vs:=[v]) (by simp only[fu,aI,kE];exact⟨hp.imp_right fun h=>by rw[h];rfl,trivial⟩) ⟨v,[],rfl,h,rfl⟩
 exact this.1
def abm {ok nw:Nat->Prop}{own:Nat->Option Nat}{Bd:Nat->Prop}(hh:Handed w Bd ok nw own){g0:Nat}{u:Value}{pm:PM}:∀(i:Nat) (ps:List (Ty×Bool)) (x:Args ps) (vs:List Value),fu ps=true->Vj w ok nw own g0 pm i ps x vs u ->
  ∃L B,avK w ok nw own L B/\(exP pm i ps x).2.2.1=akj L/\(exP pm i ps x).2.2.2=Vy B/\cT (fv (YL ok nw own L B) w (Vy B) (akj L)) (exP pm i ps x).1 vs/\fv (YL ok nw own L B) w (Vy B) (akj L) (exP pm i ps x).2.1 u /\
   (pm=.rd->L=[]/\B=none)
 |0,[],x,vs,_,h=>h.elim|_+1,[],x,vs,_,h=>h.elim|0,p::ps,x,vs,hf,h=>by
  obtain⟨vs',rfl,Vr,anB⟩:=h;simp only[fu,aI,kE]at hf;have hp:p.2=true\/p.1.n=1:=hf.1.imp_right aP;have rest:∀L B,cT (fv (YL ok nw own L B) w (Vy B) (akj L)) (exF false ps x.2) vs':=fun L B =>
   CO hf.2 (kM (fun g hg=>Vz ⟨hh.dZ g hg,.inr ⟨rfl,hg⟩⟩) anB)
  cases pm with
  |rd =>
   have hv:ac6 w ok p x.1 u:=Vr;have h1:fv (YL ok nw own [] none) w (Vy none) (akj []) (aLS .rd p x.1).1 u:=aDE (f:=false) hp (by obtain⟨cs,h1,h2⟩:=hv;exact⟨cs,jE (fun g hg=>Vz (f:=false) ⟨hh.dZ g hg,.inr ⟨rfl,hg⟩⟩) h1,h2⟩)
   exact⟨[],none,⟨fun z hz=>by simp at hz,fun z hz=>by simp at hz,fun z hz=>by simp at hz,fun d g l he=>by cases he⟩,rfl,rfl,⟨h1,rest [] none⟩,h1,fun _=>⟨rfl,rfl⟩⟩
  |own f =>
   have hv:aDs w (fun g=>own g=none/\(nw g\/(f=false/\ok g))) own p x.1 0 u:=Vr;obtain⟨L,hF,hcv⟩:=aHa (id:=62500) (f:=f) hv hp;have hS:avK w ok nw own L none:=by
    refine⟨fun z hz=>?_,fun z hz z' LH g hg hg'=>?_,hF.uniq,fun d g l he=>by cases he⟩
    .obtain⟨h1,h2,h3⟩:=hF.rows z hz;refine⟨h3.wr,h3.pos,?_,fun g hg=>by rw[h3.rZ g hg];rfl⟩;obtain⟨rows,h4,h5⟩:=h3.row;exact⟨rows,h4,af0 (fun Vf g hg=>by rw[h3.nf,Vf,amP];exact hg) h5⟩
    .obtain⟨h1,_,h3⟩:=hF.rows z hz;obtain⟨h4,_,h6⟩:=hF.rows z' LH;have h7:=h3.rZ g hg;have h8:=h6.rZ g hg';rw[h7]at h8;have:=fJ h8;exact hF.uniq z hz z' LH (by omega)
   have hrel:∀c v,uk L c v->bS (YL ok nw own L none) w (Vy none) (akj L) c v:=by
    intro c v hc;cases c with
    |own i len =>
     cases len with
     |some l=>exact hc.elim
     |none =>
      obtain⟨b,hb⟩:=hc;have hhv:(YL ok nw own L none).hv i=v:=X4 hS.uniq hb;refine⟨ld hb,?_,hhv.symm⟩;rw[hhv];obtain⟨_,_,⟨rows,ho,_⟩,_⟩:=hS.row _ hb;rcases ho.2 with ⟨he,_⟩|⟨g',cap,cur,he,_⟩
      .exact⟨_,_,_,he⟩
      .exact⟨_,_,_,he⟩
    |int k n=>exact hc|bool b=>exact hc|str s=>exact hc|_=>exact hc.elim
   exact⟨L,none,hS,hF.q,rfl,⟨Vp hrel hcv,rest L none⟩,Vp hrel hcv,fun h=>by cases h⟩
  |box =>
   obtain⟨hu,bK,cs,e,hh',kz⟩:=(show u=.pointer (some ⟨g0,0,none⟩)/\(own g0).isSome=true/\∃cs e,w.heap[g0]?=some (.cells cs e (0,0))/\Rd w ok p.1 x.1 cs.toList from Vr);have hrel:fv (YL ok nw own [] (some (4000000,g0,ex false p.1 x.1))) w (Vy (some (4000000,g0,ex false p.1 x.1))) (akj []) (.c (.ptr 4000000 0)) u:=⟨by simp[Vy,aw],hu⟩;refine⟨[],some (4000000,g0,ex false p.1 x.1),⟨fun z hz=>by simp at hz,fun z hz=>by simp at hz,fun z hz=>by simp at hz,fun d g l he=>?_⟩,rfl,rfl,⟨hrel,rest _ _⟩,hrel,fun h=>by cases h⟩;cases he;exact⟨bK,rfl,cs,e,false,p.1,x.1,hh',rfl,jE (fun g hg=>⟨hh.dZ g hg,.inr ⟨rfl,hg⟩⟩) kz⟩
  |cur =>
   obtain⟨hu,bK,cs,e,hh',kz⟩:=(show u=.pointer (some ⟨g0,0,none⟩)/\(own g0).isSome=true/\∃cs e,w.heap[g0]?=some (.cells cs e (0,0))/\Rd w (fun g=>own g=none/\nw g) p.1 x.1 cs.toList from Vr);have hrel:fv (YL ok nw own [] (some (4000000,g0,ex true p.1 x.1))) w (Vy (some (4000000,g0,ex true p.1 x.1))) (akj []) (.c (.ptr 4000000 0)) u:=⟨by simp[Vy,aw],hu⟩;refine⟨[],some (4000000,g0,ex true p.1 x.1),⟨fun z hz=>by simp at hz,fun z hz=>by simp at hz,fun z hz=>by simp at hz,fun d g l he=>?_⟩,rfl,rfl,⟨hrel,rest _ _⟩,hrel,fun h=>by cases h⟩;cases he;exact⟨bK,rfl,cs,e,true,p.1,x.1,hh',rfl,jE (fun g hg=>⟨hg.1,.inl hg.2⟩) kz⟩
 |i+1,p::ps,x,vs,hf,h=>by obtain⟨v,vs',rfl,hv,anB⟩:=h;simp only[fu,aI,kE]at hf;have hp:p.2=true\/p.1.n=1:=hf.1.imp_right aP;obtain⟨L,B,h1,h2,h3,h4,h5,h6⟩:=abm hh i ps x.2 vs' hf.2 anB;refine⟨L,B,h1,h2,h3,⟨aDE (f:=false) hp ?_,h4⟩,h5,h6⟩;obtain⟨cs,k1,k2⟩:=hv;exact⟨cs,jE (fun g hg=>Vz (f:=false) ⟨hh.dZ g hg,.inr ⟨rfl,hg⟩⟩) k1,k2⟩
def avL {pm:PM}:∀(i:Nat) (ps:List (Ty×Bool)) (x:Args ps),i<ps.length->(exP pm i ps x).1.length=ps.length
 |0,p::ps,x,_=>by
  have:∀{f:Bool} {rs:List (Ty×Bool)} {y:Args rs},(exF f rs y).length=rs.length:=by
   intro f rs
   induction rs with
   |nil=>intro y;rfl|cons a l ih=>intro y;simp[exF,ih]
  simp[exP,this]
 |i+1,p::ps,x,h=>by have:=avL (pm:=pm) i ps x.2 (by simpa using h);simp[exP,this]
 |0,[],_,h=>by simp at h
 |_+1,[],_,h=>by simp at h
def qe.ayr {w:World}{okE anm:Nat->Prop}{own cj:Nat->Option Nat}(ho:∀g j,own g=some j->cj g=some j)(he:∀g,okE g->anm g):∀{rs:List (Ty×Bool)} {x:Args rs} {j:Nat} {vs:List Value},qe w okE own rs x j vs->qe w anm cj rs x j vs:=by
 have frc:∀{t:Ty} {x:t.D} {j:Nat} {cs:List Value},FrC w okE own t x j cs->FrC w anm cj t x j cs:=by
  intro t
  induction t with
  |int k=>exact fun h=>h
  |bool=>exact fun h=>h
  |str=>exact fun h=>h
  |unit=>exact fun h=>h
  |pair a b iha ihb =>
   intro x j cs h;obtain⟨c1,c2,e,h1,h2⟩:=h;exact⟨c1,c2,e,iha h1,ihb h2⟩
  |sl e t _ =>
   intro x j cs h;obtain⟨v,rows,h1,h2,h3,h4,h5⟩:=h;exact⟨v,rows,h1,h2,h3,fun g hg=>ho g _ (h4 g hg),mE he h5⟩
 intro rs
 induction rs with
 |nil=>exact fun h=>h
 |cons a l ih =>
  intro x j vs h;obtain⟨v,vs',e,⟨cs,h1,h2⟩,h3⟩:=h;exact⟨v,vs',e,⟨cs,frc h1,h2⟩,ih h3⟩
def anC (h:Inv w0 G st a w){p:Ty×Bool}{c:List AC}{cs:Array Value}(hrel:cT (bS G w st.bx st.bl) c cs.toList)(hno:xM c=true){y:p.1.D}(hi:imV st p (.agg c)=some y){ok:Nat->Prop}
  (dZ:∀f e t xs,AC.ro f e t xs∈c->∀g,RO G f g->ok g):e8 w ok [p] (y,()) [.agg cs]:=by
 refine⟨_,[],rfl,aBl h (x:=.agg c) (u:=.agg cs) ⟨cs,rfl,hrel⟩ (fun t c' v xs hm hr hd=>?_) hi,rfl⟩;refine kL h hr hd (fun id len b hcc _=>?_) (fun f e u ys hcc=>?_)
 .subst hcc;exact absurd hm (af6 hno id len)
 .subst hcc;exact dZ f e u ys hm
def ays (l m:List CV):aW (l++m)=aW l++aW m:=by
 induction l with
 |nil=>rfl|cons c l ih=>simp[aW,ih]
def VA (h':Inv w0 G st a w){w1:World}{ok nw:Nat->Prop}{own:Nat->Option Nat}{g0:Nat}{u:Value}(hnw:G.nw=nw)(dZ:G.ok=ok)(Vr:w0.pv=u)(af9:∀g k,G.own g=some k->w1.heap.size<=g\/(own g).isSome=true)
  {con:OR} (kz:con.pm=.rd->∀g k,G.own g=some k->w1.heap.size<=g) (aOq:con.pm=.box\/con.pm=.cur->u=.pointer (some ⟨g0,0,none⟩)) {l:List CV} {us:List Value} (hus:cT (fv G w st.bx st.bl) l us) {r:Args con.rs×Args con.qs}
  (ie:arE st con.pm con.rs con.qs con.m l=some r):ani con w1 w ok nw own g0 u r us:=by
 obtain⟨ps,i,pm,rs,m,qs,g⟩:=con;dsimp only at *;subst hnw;subst dZ;have hE:∀(cj:Nat->Option Nat),(∀g,G.own g=none->cj g=none)->∀g,RO G (m2 m) g->cj g=none/\(G.nw g\/(m2 m=false/\G.ok g)):=fun cj h g hg=>⟨h g hg.1,hg.2⟩
 unfold arE at ie;cases pm with
 |rd =>
  dsimp only at ie;split at ie
  .split at ie
   .rename_i fl hm;split at ie
    .rename_i _ b;split at ie
     .rename_i c hc;split at ie
      .rename_i hck;rw[aI]at hck;split at ie
       .rename_i r0 X8;cases ie;obtain⟨cs,e,hh,bK,hrel⟩:=h'.bx b c hc;obtain⟨v,rfl⟩:∃v,us=[v]:=by
         cases us with
         |nil=>exact hus.elim
         |cons v us =>
          cases us with
          |nil=>exact⟨v,rfl⟩|cons _ _=>exact hus.2.elim
        have hv:v=.pointer (some ⟨G.hb b,0,none⟩):=hus.1.2;have hsz:=kz rfl _ _ bK;refine⟨fun g=>if g=G.hb b then some 0 else none,fun g j hg=>?_,trivial,?_⟩
        .dsimp only at hg;split at hg
         .rename_i he;exact .inl (he▸hsz)
         .cases hg
        .have key:e8 w (fun g=>(if g=G.hb b then some 0 else none)=(none:Option Nat)/\(G.nw g\/(fl=false/\G.ok g))) rs r0 [.agg cs]:=by
          match rs,r0,X8 with
          |[p],r0,X8 =>
           simp only[BE]at X8;split at X8
           .rename_i y hy;cases X8;refine anC h' hrel hck.2 hy fun f e t xs hm g hg=>⟨?_,?_⟩
            .have:g≠G.hb b:=by rintro rfl;have:=hg.1;rw[bK]at this;cases this
             simp[this]
            .have:=atD _ hck.1 _ hm;refine hg.2.imp_right fun h=>⟨?_,h.2⟩
             cases fl with
             |false=>rfl
             |true =>
              have hf:=this rfl;rw[hf]at h;cases h.1
           .cases X8
          |[],_,X8=>simp[BE]at X8
          |_::_::_,_,X8 =>
           simp only[BE]at X8;split at X8<;>cases X8
         unfold rdM at hm;split at hm
         .cases hm;exact⟨G.hb b,cs,e,by rw[hv],hsz,by simp,hh,kM (fun g hg=>⟨hg.1,hg.2.elim (fun h=>h) fun h=>by cases h.1⟩) key⟩
         .cases hm;exact⟨G.hb b,cs,e,by rw[hv],hsz,by simp,hh,kM (fun g hg=>⟨hg.1,hg.2.imp_right fun h=>h.2⟩) key⟩
         .cases hm
       .cases ie
      .cases ie
     .cases ie
    .cases ie
   .cases ie
  .cases ie
 |own f =>
  dsimp only at ie;split at ie
  .rename_i hm;rw[kE]at hm;have hm':m=2\/m=3:=hm.imp aP aP;split at ie
   .split at ie
    .rename_i hck;rw[aI]at hck;split at ie
     .rename_i r0 X8;cases ie;have df:=(Hv hm' (hE (cS G (aW l)) fun g hg=>by simp[cS,hg]) h' (aW l) [] rs l us r0 hus (pre:=[]) (seen:=[]) (by simp) (fun id len hm=>by simp at hm) (by rw[iz];exact hck.1) hck.2 X8).1;refine⟨cS G (aW l),fun g j hg=>?_,rfl,?_⟩
      .unfold cS at hg;split at hg
       .rename_i id hid;exact af9 g _ hid
       .cases hg
      .rcases hm' with rfl|rfl<;>exact df
     .cases ie
    .cases ie
   .rename_i q;split at ie
    .rename_i c hc;split at ie
     .rename_i hck;simp only[aI]at hck;obtain⟨⟨hk1,hk2⟩,hk3⟩:=hck;split at ie
      .rename_i r0 y0 X8 hy0;cases ie;have hu:fv G w st.bx st.bl c u:=by have:=h'.sp;rw[hc,Vr]at this;exact this
       rw[ays]at hk1;obtain⟨df,ac9,h1,h2,h3⟩:=Hv hm' (hE (cS G (aW l++aW [c])) fun g hg=>by simp[cS,hg]) h' (aW l++aW [c]) (aW [c]) rs l us r0 hus (pre:=[]) (seen:=[]) (by simp) (fun id len hm=>by simp at hm) hk1 hk2 X8;obtain⟨aLt,_⟩:=Hv hm' (hE (cS G (aW l++aW [c])) fun g hg=>by simp[cS,hg]) h' (aW l++aW [c]) [] [q] [c] [u] y0 ⟨hu,trivial⟩ (pre:=aW l) (seen:=ac9) (by simp) (fun id len hm=>h2 id len (by simpa using hm)) (by rw[iz];exact h1) hk3 hy0;rw[h3]at aLt;refine⟨cS G (aW l++aW [c]),fun g j hg=>?_,aLt,?_⟩
       .unfold cS at hg;split at hg
        .rename_i id hid;exact af9 g _ hid
        .cases hg
       .rcases hm' with rfl|rfl<;>exact df
      .cases ie
     .cases ie
    .cases ie
   .cases ie
  .cases ie
 |box =>
  dsimp only at ie;generalize hsv:st.sp=sv at ie;split at ie
  .rename_i b q;have aMp:=hsv;split at ie
   .rename_i c hc;split at ie
    .rename_i hck;simp only[aI]at hck;obtain⟨⟨⟨hno,hk1⟩,hk2⟩,hk3⟩:=hck;split at ie
     .rename_i r0 y0 X8 hy0;cases ie;obtain⟨cs,e,hh,bK,hrel⟩:=h'.bx b c hc;have hg0:G.hb b=g0:=by
       have h1:=h'.sp;rw[aMp,Vr,aOq (.inl rfl)]at h1;have h2:Value.pointer (some ⟨g0,0,none⟩)=.pointer (some ⟨G.hb b,0,none⟩):=h1.2;injection h2 with h2
       injection h2 with h2
       injection h2 with h2
       exact h2.symm
      subst hg0;have avM:∀g,G.own g=none->g≠G.hb b:=by rintro g hg rfl;rw[bK]at hg;cases hg
      by_cases hm:m<=1
      ·
       refine⟨fun g=>if g=G.hb b then some (nOf rs) else none,fun g j hg=>?_,⟨⟨nOf rs,by simp,bZ _⟩,cs,e,hh,?_⟩,?_⟩
       .dsimp only at hg;split at hg
        .rename_i he;exact he▸af9 _ _ bK
        .cases hg
       .refine anC h' hrel hno hy0 fun f e t xs hm g hg=>⟨by simp[avM g hg.1],hg.2.imp_right fun h=>h.2⟩
       .have hm':m=0\/m=1:=by omega
        have hbl:∀g id,G.own g=some (.bl id)->g≠G.hb b:=by rintro g id hg rfl;rw[bK]at hg;cases hg
        rcases hm' with rfl|rfl
        .exact af8 h' hus hk1 X8 (fun f g _ hg=>⟨by simp[avM g hg.1],hg.2.imp_right fun h=>h.2⟩) (fun g id hg=>⟨by simp[hbl g id hg],.inl (h'.U9 hg)⟩) (.inl rfl)
        .exact af8 h' hus hk1 X8 (fun f g hf hg=>⟨by simp[avM g hg.1],hg.2.elim (fun h=>h) fun h=>by rw[hf (by simp)]at h;cases h.1⟩) (fun g id hg=>⟨by simp[hbl g id hg],h'.U9 hg⟩) (.inr rfl)
      .have hm':m=2\/m=3:=by have:=Fz hk3;omega
       have aQA:yw st rs l=true:=by rcases hm' with rfl|rfl<;>exact hk2
       have df:=(Hv hm' (okE:=fun g=>G.own g=none/\(G.nw g\/(m2 m=false/\G.ok g))) (fun g hg=>⟨hg.1,hg.2⟩) h' (aW l) [] rs l us r0 hus (pre:=[]) (seen:=[]) (by simp) (fun id len hm=>by simp at hm) (by rw[iz];exact hk1) aQA X8).1;have ayt:∀g,G.own g=none->(if g=G.hb b then some (nOf rs) else cS G (aW l) g)=none:=by intro g hg;rw[ah (avM g hg)];simp[cS,hg]
       refine⟨fun g=>if g=G.hb b then some (nOf rs) else cS G (aW l) g,fun g j hg=>?_,⟨⟨nOf rs,by simp,bZ _⟩,cs,e,hh,?_⟩,?_⟩
       .dsimp only at hg;split at hg
        .rename_i he;exact he▸af9 _ _ bK
        .unfold cS at hg;split at hg
         .rename_i id hid;exact af9 g _ hid
         .cases hg
       .refine anC h' hrel hno hy0 fun f e t xs hm g hg=>⟨ayt g hg.1,hg.2.imp_right fun h=>h.2⟩
       .have aOs:=qe.ayr (cj:=fun g=>if g=G.hb b then some (nOf rs) else cS G (aW l) g) (anm:=fun g=>(if g=G.hb b then some (nOf rs) else cS G (aW l) g)=none/\(G.nw g\/(m2 m=false/\G.ok g))) (fun g j hg=>by
         have:g≠G.hb b:=by rintro rfl;simp[cS,bK]at hg
         simp[this,hg]) (fun g hg=>⟨ayt g hg.1,hg.2⟩) df
        rcases hm' with rfl|rfl<;>exact aOs
     .cases ie
    .cases ie
   .cases ie
  .cases ie
 |cur =>
  dsimp only at ie;generalize hsv:st.sp=sv at ie;split at ie
  .rename_i b q;have aMp:=hsv;split at ie
   .rename_i c hc;split at ie
    .rename_i hck;simp only[aI]at hck;obtain⟨⟨⟨⟨hno,hna⟩,hk1⟩,hk2⟩,hk3⟩:=hck;split at ie
     .rename_i r0 y0 X8 hy0;cases ie;obtain⟨cs,e,hh,bK,hrel⟩:=h'.bx b c hc;have hg0:G.hb b=g0:=by
       have h1:=h'.sp;rw[aMp,Vr,aOq (.inr rfl)]at h1;have h2:Value.pointer (some ⟨g0,0,none⟩)=.pointer (some ⟨G.hb b,0,none⟩):=h1.2;injection h2 with h2
       injection h2 with h2
       injection h2 with h2
       exact h2.symm
      subst hg0;have avM:∀g,G.own g=none->g≠G.hb b:=by rintro g hg rfl;rw[bK]at hg;cases hg
      have aLu:∀f e t xs,AC.ro f e t xs∈c->f=true:=fun f e t xs hm=>OW hna f e t xs hm
      by_cases hm:m<=1
      .refine⟨fun g=>if g=G.hb b then some (nOf rs) else none,fun g j hg=>?_,⟨⟨nOf rs,by simp,bZ _⟩,cs,e,hh,?_⟩,?_⟩
       .dsimp only at hg;split at hg
        .rename_i he;exact he▸af9 _ _ bK
        .cases hg
       .refine anC h' hrel hno hy0 fun f e t xs hm g hg=>⟨by simp[avM g hg.1],hg.2.elim (fun h=>h) fun h=>by rw[aLu f e t xs hm]at h;cases h.1⟩
       .have hm':m=0\/m=1:=by omega
        have hbl:∀g id,G.own g=some (.bl id)->g≠G.hb b:=by rintro g id hg rfl;rw[bK]at hg;cases hg
        rcases hm' with rfl|rfl
        .exact af8 h' hus hk1 X8 (fun f g _ hg=>⟨by simp[avM g hg.1],hg.2.imp_right fun h=>h.2⟩) (fun g id hg=>⟨by simp[hbl g id hg],.inl (h'.U9 hg)⟩) (.inl rfl)
        .exact af8 h' hus hk1 X8 (fun f g hf hg=>⟨by simp[avM g hg.1],hg.2.elim (fun h=>h) fun h=>by rw[hf (by simp)]at h;cases h.1⟩) (fun g id hg=>⟨by simp[hbl g id hg],h'.U9 hg⟩) (.inr rfl)
      .have hm':m=2:=by have:=Fz hk3;omega
       subst hm';have df:=(Hv (.inl rfl) (okE:=fun g=>G.own g=none/\(G.nw g\/(m2 2=false/\G.ok g))) (fun g hg=>⟨hg.1,hg.2⟩) h' (aW l) [] rs l us r0 hus (pre:=[]) (seen:=[]) (by simp) (fun id len hm=>by simp at hm) (by rw[iz];exact hk1) hk2 X8).1;have ayt:∀g,G.own g=none->(if g=G.hb b then some (nOf rs) else cS G (aW l) g)=none:=by intro g hg;rw[ah (avM g hg)];simp[cS,hg]
       refine⟨fun g=>if g=G.hb b then some (nOf rs) else cS G (aW l) g,fun g j hg=>?_,⟨⟨nOf rs,by simp,bZ _⟩,cs,e,hh,?_⟩,?_⟩
       .dsimp only at hg;split at hg
        .rename_i he;exact he▸af9 _ _ bK
        .unfold cS at hg;split at hg
         .rename_i id hid;exact af9 g _ hid
         .cases hg
       .refine anC h' hrel hno hy0 fun f e t xs hm g hg=>⟨ayt g hg.1,hg.2.elim (fun h=>h) fun h=>by rw[aLu f e t xs hm]at h;cases h.1⟩
       .exact qe.ayr (cj:=fun g=>if g=G.hb b then some (nOf rs) else cS G (aW l) g) (anm:=fun g=>(if g=G.hb b then some (nOf rs) else cS G (aW l) g)=none/\(G.nw g\/(m2 2=false/\G.ok g))) (fun g j hg=>by
         have:g≠G.hb b:=by rintro rfl;simp[cS,bK]at hg
         simp[this,hg]) (fun g hg=>⟨ayt g hg.1,hg.2⟩) df
     .cases ie
    .cases ie
   .cases ie
  .cases ie
def Zn {T : Tab} (hC : ∀ f con, C f = some con → tX P T f con) {f : FuncId} {fn : Func} {con : OR} (hf : P.funcs[f]? = some fn) (hn : (fn.name == "runtime.NumGoroutine") = false) (hb : fn.body.isNone = false) (hq : aE7 con)
  (H:Nat->Option Hint) (hrun:∀x r,con.g x=some r->∃N,aDe P C (sd.Rm N) H fn con.ps con.i con.pm con.rs con.qs con.m x=some r):anj P T f con:=by
 refine⟨⟨fn,hf,hn,hb⟩,hq,fun x r hg w hTw ok nw own g0 vs u hh hin=>?_⟩;obtain⟨N,hr⟩:=hrun x r hg;obtain⟨hc,hr⟩:=aY hr;simp only[aI]at hc;obtain⟨⟨⟨hc1,hc2⟩,hc3⟩,hc4⟩:=hc;obtain⟨c,aiQ⟩:∃c,fn.body=some c:=by
  cases h:fn.body with
  |none=>rw[h]at hb;cases hb|some c=>exact⟨c,rfl⟩
 have ayq:oh fn=c:=by simp[oh,aiQ]
 rw[ayq]at hr;obtain⟨L,B,hS,hL,hB,hrel,Vr,aOt⟩:=abm hh con.i con.ps x vs hc3 hin;have hlen:vs.length=con.ps.length:=by rw[<-avL (pm:=con.pm) con.i con.ps x (iD hc2)];exact hrel.len.symm
 have aHE:∀g,(∃k,(YL ok nw own L B).own g=some k)->∃j,own g=some j:=by
  rintro g ⟨k,hk⟩;simp only[YL]at hk;cases ho:own g with
  |none=>rw[ho]at hk;cases hk|some j=>exact⟨j,rfl⟩
 have aMq:∀g,(∃k,(YL ok nw own L B).own g=some k)->nw g:=by intro g hg;obtain⟨j,hj⟩:=aHE g hg;exact(hh.bK g j hj).1
 let R:fR:={w:=w,ok:=ok,nw:=nw,fr:=fun g=>∃k,(YL ok nw own L B).own g=some k,hnw:=hh.mD,pv:=u,hfr:=aMq}
 have abn:∀g,R.fr g->∃j,own g=some j:=aHE;have aBE:Inv R (YL ok nw own L B) (afT fn.ntmps con.pm con.i con.ps x) {tmps:=vs.toArray++Array.replicate (fn.ntmps-vs.toArray.size) undef,defers:=[]} w:=by unfold afT;rw[hL,hB];refine atF (R:=R) hh rfl rfl rfl rfl (fun g k hk=>Exists.intro k hk) hS rfl ?_ Vr (fun t v hv=>aBD hrel hv);have:=Fz hc1;simp[hlen];omega
 refine calls_of_wp hf aiQ (sj (w0:=R) (fun f con hf=>(hC f con hf).at hTw fun b hb=>by obtain⟨j,hj⟩:=abn b hb;exact(hh.bK b j hj).2.2) H c (aBE.aBa (atd H)) hr fun e G' dV a' w' h' l4=>?_)
 have post:∀e,e=Exit.normal\/e=Exit.ret->(match Rn P dV fn.results.toList with
   |some l=>arE dV con.pm con.rs con.qs con.m l|none=>none)=some r->bodyPost P fn (fun e w'=>∃us,e=.returned (ga us)/\ani con w w' ok nw own g0 u r us/\fK (fun g=>(own g).isSome=true) w w') e a' w':=by
  intro e he l4;split at l4
  .rename_i l hl;obtain⟨us,hus,df⟩:=Vx (P:=P) h' hl;have af9:∀g k,G'.own g=some k->w.heap.size<=g\/(own g).isSome=true:=by
    intro g k hk;rcases(h'.own g k hk).1 with h1|h1
    .exact .inl h1
    .obtain⟨j,hj⟩:=abn g h1;exact .inr (by rw[hj];rfl)
   have hR:∃us',Ending.returned (ga us)=.returned (ga us')/\ani con w w' ok nw own g0 u r us'/\fK (fun g=>(own g).isSome=true) w w':=by
    refine⟨us,rfl,VA h' h'.nw h'.rok rfl af9 (fun hp g k hk=>?_) (fun hp=>?_) hus l4,?_⟩
    .rcases(h'.own g k hk).1 with h1|h1
     .exact h1
     .obtain⟨k',hk'⟩:=h1;obtain⟨e1,e2⟩:=aOt hp;subst e1;subst e2;simp only[YL,CP,Ok]at hk';split at hk'<;>cases hk'
    .have:∀(i:Nat) (ps:List (Ty×Bool)) (x:Args ps) (vs:List Value),Vj w ok nw own g0 con.pm i ps x vs u->u=.pointer (some ⟨g0,0,none⟩):=by
      intro i
      induction i with
      |zero =>
       intro ps x vs h;cases ps with
       |nil=>exact h.elim
       |cons p ps =>
        obtain⟨vs',_,h1,_⟩:=h;rcases hp with hp|hp<;>rw[hp]at h1<;>exact h1.1
      |succ i ih =>
       intro ps x vs h;cases ps with
       |nil=>exact h.elim
       |cons p ps =>
        obtain⟨v,vs',_,_,h1⟩:=h;exact ih ps x.2 vs' h1
     exact this _ _ _ _ hin
    .exact⟨h'.below.os,h'.below.tape,h'.below.output,h'.below.size,fun k hk hf=>h'.below.block k hk fun hfr=>hf (by obtain⟨j,hj⟩:=abn k hfr;rw[hj];rfl)⟩
   rcases he with rfl|rfl
   .exact bodyPost_end df h'.defers hR
   .exact bodyPost_ret df h'.defers hR
  .cases l4
 cases e with
 |norm=>exact post .normal (.inl rfl) l4|ret=>exact post .ret (.inr rfl) l4|exit j=>cases l4
def aJ3 {a b:Ty×Bool}{ca cb:CV}{r0:Args [a,b]×Args []}{n:Args [b]}(h:arE st (.own true) [a,b] [] 2 [ca,cb]=some r0)(hn:BE st [b] [cb]=some n):r0.1.2.1=n.1:=by
 simp only[arE,Nat.beq,amS]at h;split at h
 .split at h
  .rename_i r hr;cases h;simp only[BE]at hr hn;split at hr
   .split at hr
    .rename_i y hy;split at hy
     .rename_i z hz;rw[hz]at hn;cases hn;cases hy;cases hr;rfl
     .cases hy
    .cases hr
   .cases hr
  .cases h
 .cases h
def aJ4 {b q:Ty×Bool}{cb:CV}{r0:Args [b]×Args [q]}{n:Args [b]}(h:arE st (.own true) [b] [q] 2 [cb]=some r0)(hn:BE st [b] [cb]=some n):r0.1.1=n.1:=by
 simp only[arE,Nat.beq,amS]at h;split at h
 .split at h
  .split at h
   .rename_i r y hr hy;cases h;rw[hn]at hr;cases hr;rfl
   .cases h
  .cases h
 .cases h
def arQ {T : Tab} (hC : ∀ f con, C f = some con → tX P T f con) {f : FuncId} {fn : Func} {con : Sel} (hf : P.funcs[f]? = some fn) (hn : (fn.name == "runtime.NumGoroutine") = false) (hb : fn.body.isNone = false) (hq : og con.ps con.i = some con.q)
  (H:Nat->Option Hint) (hrun:∀x r,con.g x=some r->∃N,arF P C (sd.Rm N) H fn con.ps con.i con.a con.b con.q x=some r):ank P T f con:=by
 refine⟨⟨fn,hf,hn,hb⟩,hq,fun x r hg w hTw ok nw own g0 vs u hh hin=>?_⟩;obtain⟨N,hr⟩:=hrun x r hg;obtain⟨hc,hr⟩:=aY hr;simp only[aI]at hc;obtain⟨⟨⟨hc1,hc2⟩,hc3⟩,hc4⟩:=hc;obtain⟨c,aiQ⟩:∃c,fn.body=some c:=by
  cases h:fn.body with
  |none=>rw[h]at hb;cases hb|some c=>exact⟨c,rfl⟩
 have ayq:oh fn=c:=by simp[oh,aiQ]
 rw[ayq]at hr;obtain⟨L,B,hS,hL,hB,hrel,Vr,aOt⟩:=abm hh con.i con.ps x vs hc3 hin;have hlen:vs.length=con.ps.length:=by rw[<-avL (pm:=(.own true)) con.i con.ps x (iD hc2)];exact hrel.len.symm
 have aHE:∀g,(∃k,(YL ok nw own L B).own g=some k)->∃j,own g=some j:=by
  rintro g ⟨k,hk⟩;simp only[YL]at hk;cases ho:own g with
  |none=>rw[ho]at hk;cases hk|some j=>exact⟨j,rfl⟩
 have aMq:∀g,(∃k,(YL ok nw own L B).own g=some k)->nw g:=by intro g hg;obtain⟨j,hj⟩:=aHE g hg;exact(hh.bK g j hj).1
 let R:fR:={w:=w,ok:=ok,nw:=nw,fr:=fun g=>∃k,(YL ok nw own L B).own g=some k,hnw:=hh.mD,pv:=u,hfr:=aMq}
 have abn:∀g,R.fr g->∃j,own g=some j:=aHE;have aBE:Inv R (YL ok nw own L B) (afT fn.ntmps (.own true) con.i con.ps x) {tmps:=vs.toArray++Array.replicate (fn.ntmps-vs.toArray.size) undef,defers:=[]} w:=by unfold afT;rw[hL,hB];refine atF (R:=R) hh rfl rfl rfl rfl (fun g k hk=>Exists.intro k hk) hS rfl ?_ Vr (fun t v hv=>aBD hrel hv);have:=Fz hc1;simp[hlen];omega
 refine calls_of_wp hf aiQ (sj (w0:=R) (fun f con hf=>(hC f con hf).at hTw fun b hb=>by obtain⟨j,hj⟩:=abn b hb;exact(hh.bK b j hj).2.2) H c (aBE.aBa (atd H)) hr fun e G' dV a' w' h' l4=>?_)
 have post:∀e,e=Exit.normal\/e=Exit.ret->aA9 P fn con.a con.b con.q Ex.norm dV=some r->bodyPost P fn (fun e w'=>∃us,e=.returned (ga us)/\aJR con w w' ok nw own g0 u r us/\fK (fun g=>(own g).isSome=true) w w') e a' w':=by
  intro e he l4;simp only[aA9]at l4;split at l4
  .rename_i ca cb hl;obtain⟨us,hus,df⟩:=Vx (P:=P) h' hl;obtain⟨va,vb,rfl⟩:∃va vb,us=[va,vb]:=by
    match us,hus with
    |[va,vb],_=>exact⟨va,vb,rfl⟩|[],h=>exact h.elim|[_],h=>exact h.2.elim|_::_::_::_,h=>exact h.2.2.elim
   have af9:∀g k,G'.own g=some k->w.heap.size<=g\/(own g).isSome=true:=by
    intro g k hk;rcases(h'.own g k hk).1 with h1|h1
    .exact .inl h1
    .obtain⟨j,hj⟩:=abn g h1;exact .inr (by rw[hj];rfl)
   have hR:∃us',Ending.returned (ga [va,vb])=.returned (ga us')/\aJR con w w' ok nw own g0 u r us'/\fK (fun g=>(own g).isSome=true) w w':=by
    refine⟨[va,vb],rfl,⟨va,vb,rfl,?_⟩,?_⟩
    .split at l4
     .rename_i n hn;cases hdn:amU con.b.1 n.1 with
      |true =>
       rw[hdn]at l4;simp only[br]at l4;split at l4
       .rename_i r0 X8;cases l4;have hb:r0.1.2.1=n.1:=aJ3 X8 hn;dsimp only;rw[hb,hdn];have:=VA (con:=aL6 con) h' h'.nw h'.rok (g0:=g0) rfl af9 (fun hp=>by cases hp) (fun hp=>by rcases hp with hp|hp<;>cases hp) hus X8;rw[<-hb];exact this
       .cases l4
      |false =>
       rw[hdn]at l4;simp only[br]at l4;obtain⟨avs,l4⟩:=aY l4;split at l4
       .rename_i r0 X8;cases l4;have hb:r0.1.1=n.1:=aJ4 X8 hn;dsimp only;rw[hb,hdn];have:=VA (con:=aNS con) h' h'.nw h'.rok (g0:=g0) rfl af9 (fun hp=>by cases hp) (fun hp=>by rcases hp with hp|hp<;>cases hp) (l:=[cb]) (us:=[vb]) ⟨hus.2.1,trivial⟩ X8;rw[<-hb];refine⟨this,fun ha=>?_⟩;unfold aK6 at avs;rw[ha]at avs;split at avs
        .rename_i l;obtain⟨vs,rfl,hrel⟩:=hus.1;rw[aI]at avs;exact⟨vs,rfl,by rw[<-hrel.len,aP avs.1],amd hrel (ac1 avs.2)⟩
        .cases avs
        .contradiction
       .cases l4
     .cases l4
    .exact⟨h'.below.os,h'.below.tape,h'.below.output,h'.below.size,fun k hk hf=>h'.below.block k hk fun hfr=>hf (by obtain⟨j,hj⟩:=abn k hfr;rw[hj];rfl)⟩
   rcases he with rfl|rfl
   .exact bodyPost_end df h'.defers hR
   .exact bodyPost_ret df h'.defers hR
  .cases l4
 cases e with
 |norm=>exact post .normal (.inl rfl) l4|ret=>exact post .ret (.inr rfl) l4|exit j=>cases l4
end
end Go.Am
