/- Lemmas for the claim. No condition. -/
import Derived.Test.YtfapcfpkbahneaaGreatDoorQtAmFn
set_option linter.all false
namespace Go.Am
open Go.RowKit
section
variable {N:Nat} {P:Program} {C:FuncId->Option Any} {w0:fJ} {w:World} {G:Gh} {st:St} {a:Act}
def Yg (ok nw:Nat->Prop)(own:Nat->Option Nat)(L:List (Nat×gp×Value))(B:Option (Nat×Nat×List AC)):Gh :=
 {nw:=nw,ok:=ok,hb:=fun _=>match B with|some (_,g0,_)=>g0|none=>0,hv:=fun i=>hvL L i,own:=fun g=>match own g with|none=>none|some _=>Cu L B g}
def UZ:Option (Nat×Nat×List AC)->List (Nat×List AC)
 |none=>[]
 |some (d,_,l)=>[(d,l)]
def ajI (L:List (Nat×gp×Value)):List (Nat×Option gp):=L.map fun z=>(z.1,some z.2.1)
structure auv (w:World) (ok nw:Nat->Prop) (own:Nat->Option Nat) (L:List (Nat×gp×Value)) (B:Option (Nat×Nat×List AC)):Prop where
 row:∀z∈L,z.2.1.w=true/\0<z.2.1.t.n/\(∃rows,w.ownsRow 0 z.2.1.e z.2.1.t.n z.2.2 z.2.1.xs.length rows/\fL w (fun g=>own g=none/\(nw g\/(z.2.1.f=false/\ok g))) z.2.1.t rows z.2.1.xs)/\∀g,z.2.2.ownBlock=some g->(own g).isSome=true
 inj:∀z∈L,∀z'∈L,∀g,z.2.2.ownBlock=some g->z'.2.2.ownBlock=some g->z=z'
 uniq:∀z∈L,∀z'∈L,z.1=z'.1->z=z'
 box:∀d g l,B=some (d,g,l)->(own g).isSome=true/\L=[]/\∃cs e f t x,w.heap[g]?=some (.cells cs e (0,0))/\l=ex f t x/\Rd w (fun g=>own g=none/\(nw g\/(f=false/\ok g))) t x cs.toList
theorem U0 {ok nw:Nat->Prop}{own:Nat->Option Nat}{L:List (Nat×gp×Value)}{B:Option (Nat×Nat×List AC)}{f:Bool}{g:Nat}(h:own g=none/\(nw g\/(f=false/\ok g))):RO (Yg ok nw own L B) f g :=
 ⟨by simp[Yg,h.1],h.2⟩
theorem asC {ok nw:Nat->Prop}{own:Nat->Option Nat}{Bd:Nat->Prop}(hh:Handed w Bd ok nw own){R:fJ}(hhd:R.hd=fun _=>none)(hw:R.w=w)(dO:R.ok=ok)(hnw:R.nw=nw){L:List (Nat×gp×Value)}{B:Option (Nat×Nat×List AC)}
  (hfr:∀g k,(Yg ok nw own L B).own g=some k->R.fr g) (hS:auv w ok nw own L B) {nt:Nat} {tm:List (Nat×AV)} {sp:AV} (hd:a.defers=[]) (hs:a.tmps.size=nt)
  (UR:j2 (Yg ok nw own L B) w (UZ B) (ajI L) sp R.pv) (htm:∀t v,look tm t=some v->j2 (Yg ok nw own L B) w (UZ B) (ajI L) v (a.tmps.getD t undef)) :
  Inv R (Yg ok nw own L B) {nt:=nt,tm:=tm,bx:=UZ B,bl:=ajI L,sp:=sp} a w:=by
 subst hw;have aMj:∀z∈L,∀g,z.2.2.ownBlock=some g->(Yg ok nw own L B).own g=some (.bl z.1):=by
  intro z hz g hg;have ho:=(hS.row z hz).2.2.2 g hg;obtain⟨j,hj⟩:=mj.1 ho;have hB:B=none:=by
   cases B with
   |none=>rfl
   |some q =>
    obtain⟨d,g0,l⟩:=q;have:=(hS.box d g0 l rfl).2.1;rw[this]at hz;simp at hz
  subst hB;simp only[Yg,hj,Cu];unfold N3;cases hf:L.find? fun z=>z.2.2.ownBlock==some g with
  |none =>
   have:=al4.1 hf z hz;simp[hg]at this
  |some y =>
   have h1:=ahU hf;have h2:=YL hf;rw[<-hS.inj z hz y h2 g hg (by simpa using h1)];rfl
 refine⟨hnw.symm,dO.symm,fB.refl _ _,hd,hs,UR,fun g b o hm=>(by rw[hhd]at hm;cases hm),htm,fun d l hl=>?_,fun id b hb=>?_,fun g k hk=>?_⟩
 ·cases B with
  |none=>simp[UZ,look]at hl
  |some q =>
   obtain⟨d0,g0,l0⟩:=q;simp only[UZ,aw]at hl;by_cases hdd:d0=d
   ·rw[ak hdd]at hl;cases hl;subst hdd;obtain⟨h1,h2,cs,e,f,t,x,h3,h4,h5⟩:=hS.box d0 g0 l rfl;refine⟨cs,e,h3,?_,?_⟩
    ·obtain⟨j,hj⟩:=mj.1 h1;simp[Yg,hj,Cu]
    ·rw[h4];exact UB (jr (fun g hg=>U0 (f:=f) hg) h5)
   ·rw[ah hdd]at hl;simp[look]at hl
 ·obtain⟨v,hv⟩:=acJ hb;obtain⟨h1,h2,⟨rows,h3,h4⟩,h5⟩:=hS.row _ hv;have hhv:(Yg ok nw own L B).hv id=v:=Xu hS.uniq hv;refine⟨fun _=>⟨rows,by rw[hhv];exact h3,fun g hg=>?_,mr (fun g hg=>U0 hg) h4⟩,fun hw=>?_,h2⟩
  ·rw[hhv]at hg;exact aMj _ hv g hg
  ·rw[show b.w=true from h1]at hw;cases hw
 ·have hk0:=hk;unfold Yg at hk;dsimp only at hk;cases ho:own g with
  |none=>rw[ho]at hk;cases hk
  |some j =>
   rw[ho]at hk;dsimp only at hk;refine⟨.inr (hfr g k hk0),(hh.bH g j ho).2.1,?_⟩;have rows:N3 L g=some k->aFB (Yg ok nw own L B) (UZ B) (ajI L) g k:=by
    intro hr;unfold N3 at hr;cases hf:L.find? fun z=>z.2.2.ownBlock==some g with
    |none=>rw[hf]at hr;cases hr
    |some y =>
     rw[hf]at hr;cases hr;have h1:=ahU hf;have h2:=YL hf;refine⟨kS h2,?_⟩;rw[show(Yg ok nw own L B).hv y.1=y.2.2 from Xu hS.uniq h2];simpa using h1
   cases B with
   |none=>have:=rows hk;cases k with|bx d=>exact this|bl id=>exact this|hid=>trivial
   |some q =>
    obtain⟨d0,g0,l0⟩:=q;simp only[Cu]at hk;by_cases he:g=g0
    ·rw[ak he]at hk;cases hk;exact⟨by simp[UZ,aw],by simp[Yg,he]⟩
    ·rw[ah he]at hk;have:=rows hk;cases k with|bx d=>exact this|bl id=>exact this|hid=>trivial
theorem aCb {f:Bool}{G:Gh}{bx:List (Nat×List AC)}{bl:List (Nat×Option gp)}{p:Ty×Bool}{x:p.1.D}{v:Value}(hp:p.2=true\/p.1.n=1)(h:acH w (RO G f) p x v) :
  fh G w bx bl (match p.2 with|true=>.agg (ex f p.1 x)|false=>.c (match ex f p.1 x with|[c]=>c|_=>.none)) v:=by
 have:=Ct (f:=f) (bx:=bx) (bl:=bl) (rs:=[p]) (x:=(x,())) (vs:=[v]) (by simp only[fg,aJ,mn];exact⟨hp.imp_right fun h=>by rw[h];rfl,trivial⟩) ⟨v,[],rfl,h,rfl⟩
 exact this.1
theorem aaY {ok nw:Nat->Prop}{own:Nat->Option Nat}{Bd:Nat->Prop}(hh:Handed w Bd ok nw own){g0:Nat}{u:Value}{pm:PM}:∀(i:Nat) (ps:List (Ty×Bool)) (x:Args ps) (vs:List Value),fg ps=true->UJ w ok nw own g0 pm i ps x vs u ->
  ∃L B,auv w ok nw own L B/\(exP pm i ps x).2.2.1=ajI L/\(exP pm i ps x).2.2.2=UZ B/\cT (fh (Yg ok nw own L B) w (UZ B) (ajI L)) (exP pm i ps x).1 vs/\fh (Yg ok nw own L B) w (UZ B) (ajI L) (exP pm i ps x).2.1 u /\
   (pm=.rd->L=[]/\B=none)
 |0,[],x,vs,_,h=>h.elim
 |_+1,[],x,vs,_,h=>h.elim
 |0,p::ps,x,vs,hf,h=>by
  obtain⟨vs',rfl,UR,amO⟩:=h;simp only[fg,aJ,mn]at hf;have hp:p.2=true\/p.1.n=1:=hf.1.imp_right aP;have rest:∀L B,cT (fh (Yg ok nw own L B) w (UZ B) (ajI L)) (exF false ps x.2) vs':=fun L B =>
   Ct hf.2 (kE (fun g hg=>U0 ⟨hh.dO g hg,.inr ⟨rfl,hg⟩⟩) amO)
  cases pm with
  |rd =>
   have hv:acH w ok p x.1 u:=UR;have h1:fh (Yg ok nw own [] none) w (UZ none) (ajI []) (aJQ .rd p x.1).1 u:=aCb (f:=false) hp (by obtain⟨cs,h1,h2⟩:=hv;exact⟨cs,jr (fun g hg=>U0 (f:=false) ⟨hh.dO g hg,.inr ⟨rfl,hg⟩⟩) h1,h2⟩)
   exact⟨[],none,⟨fun z hz=>by simp at hz,fun z hz=>by simp at hz,fun z hz=>by simp at hz,fun d g l he=>by cases he⟩,rfl,rfl,⟨h1,rest [] none⟩,h1,fun _=>⟨rfl,rfl⟩⟩
  |own f =>
   have hv:aBZ w (fun g=>own g=none/\(nw g\/(f=false/\ok g))) own p x.1 0 u:=UR;obtain⟨L,hF,hcv⟩:=aFx (id:=62500) (f:=f) hv hp;have hS:auv w ok nw own L none:=by
    refine⟨fun z hz=>?_,fun z hz z' Lm g hg hg'=>?_,hF.uniq,fun d g l he=>by cases he⟩
    ·obtain⟨h1,h2,h3⟩:=hF.rows z hz;refine⟨h3.wr,h3.pos,?_,fun g hg=>by rw[h3.rS g hg];rfl⟩;obtain⟨rows,h4,h5⟩:=h3.row;exact⟨rows,h4,afy (fun UF g hg=>by rw[h3.nf,UF,Bool.or_false];exact hg) h5⟩
    ·obtain⟨h1,_,h3⟩:=hF.rows z hz;obtain⟨h4,_,h6⟩:=hF.rows z' Lm;have h7:=h3.rS g hg;have h8:=h6.rS g hg';rw[h7]at h8;have:=fQ h8;exact hF.uniq z hz z' Lm (by omega)
   have hrel:∀c v,tU L c v->bN (Yg ok nw own L none) w (UZ none) (ajI L) c v:=by
    intro c v hc;cases c with
    |own i len =>
     cases len with
     |some l=>exact hc.elim
     |none =>
      obtain⟨b,hb⟩:=hc;have hhv:(Yg ok nw own L none).hv i=v:=Xu hS.uniq hb;refine⟨kS hb,?_,hhv.symm⟩;rw[hhv];obtain⟨_,_,⟨rows,ho,_⟩,_⟩:=hS.row _ hb;rcases ho.2 with ⟨he,_⟩|⟨g',cap,cur,he,_⟩
      ·exact⟨_,_,_,he⟩
      ·exact⟨_,_,_,he⟩
    |int k n=>exact hc
    |bool b=>exact hc
    |str s=>exact hc
    |_=>exact hc.elim
   exact⟨L,none,hS,hF.q,rfl,⟨UP hrel hcv,rest L none⟩,UP hrel hcv,fun h=>by cases h⟩
  |box =>
   obtain⟨hu,bH,cs,e,hh',kt⟩:=(show u=.pointer (some ⟨g0,0,none⟩)/\(own g0).isSome=true/\∃cs e,w.heap[g0]?=some (.cells cs e (0,0))/\Rd w ok p.1 x.1 cs.toList from UR);have hrel:fh (Yg ok nw own [] (some (4000000,g0,ex false p.1 x.1))) w (UZ (some (4000000,g0,ex false p.1 x.1))) (ajI []) (.c (.ptr 4000000 0)) u:=⟨by simp[UZ,aw],hu⟩;refine⟨[],some (4000000,g0,ex false p.1 x.1),⟨fun z hz=>by simp at hz,fun z hz=>by simp at hz,fun z hz=>by simp at hz,fun d g l he=>?_⟩,rfl,rfl,⟨hrel,rest _ _⟩,hrel,fun h=>by cases h⟩;cases he;exact⟨bH,rfl,cs,e,false,p.1,x.1,hh',rfl,jr (fun g hg=>⟨hh.dO g hg,.inr ⟨rfl,hg⟩⟩) kt⟩
  |cur =>
   obtain⟨hu,bH,cs,e,hh',kt⟩:=(show u=.pointer (some ⟨g0,0,none⟩)/\(own g0).isSome=true/\∃cs e,w.heap[g0]?=some (.cells cs e (0,0))/\Rd w (fun g=>own g=none/\nw g) p.1 x.1 cs.toList from UR);have hrel:fh (Yg ok nw own [] (some (4000000,g0,ex true p.1 x.1))) w (UZ (some (4000000,g0,ex true p.1 x.1))) (ajI []) (.c (.ptr 4000000 0)) u:=⟨by simp[UZ,aw],hu⟩;refine⟨[],some (4000000,g0,ex true p.1 x.1),⟨fun z hz=>by simp at hz,fun z hz=>by simp at hz,fun z hz=>by simp at hz,fun d g l he=>?_⟩,rfl,rfl,⟨hrel,rest _ _⟩,hrel,fun h=>by cases h⟩;cases he;exact⟨bH,rfl,cs,e,true,p.1,x.1,hh',rfl,jr (fun g hg=>⟨hg.1,.inl hg.2⟩) kt⟩
 |i+1,p::ps,x,vs,hf,h=>by obtain⟨v,vs',rfl,hv,amO⟩:=h;simp only[fg,aJ,mn]at hf;have hp:p.2=true\/p.1.n=1:=hf.1.imp_right aP;obtain⟨L,B,h1,h2,h3,h4,h5,h6⟩:=aaY hh i ps x.2 vs' hf.2 amO;refine⟨L,B,h1,h2,h3,⟨aCb (f:=false) hp ?_,h4⟩,h5,h6⟩;obtain⟨cs,k1,k2⟩:=hv;exact⟨cs,jr (fun g hg=>U0 (f:=false) ⟨hh.dO g hg,.inr ⟨rfl,hg⟩⟩) k1,k2⟩
theorem auw {pm:PM}:∀(i:Nat) (ps:List (Ty×Bool)) (x:Args ps),i<ps.length->(exP pm i ps x).1.length=ps.length
 |0,p::ps,x,_=>by
  have:∀{f:Bool} {rs:List (Ty×Bool)} {y:Args rs},(exF f rs y).length=rs.length:=by
   intro f rs
   induction rs with
   |nil=>intro y;rfl
   |cons a l ih=>intro y;simp[exF,ih]
  simp[exP,this]
 |i+1,p::ps,x,h=>by have:=auw (pm:=pm) i ps x.2 (by simpa using h);simp[exP,this]
 |0,[],_,h=>by simp at h
 |_+1,[],_,h=>by simp at h
theorem p7.axb {w:World}{okE amA:Nat->Prop}{own b8:Nat->Option Nat}(ho:∀g j,own g=some j->b8 g=some j)(he:∀g,okE g->amA g):∀{rs:List (Ty×Bool)} {x:Args rs} {j:Nat} {vs:List Value},p7 w okE own rs x j vs->p7 w amA b8 rs x j vs:=by
 have frc:∀{t:Ty} {x:t.D} {j:Nat} {cs:List Value},FrC w okE own t x j cs->FrC w amA b8 t x j cs:=by
  intro t
  induction t with
  |int k=>exact fun h=>h
  |bool=>exact fun h=>h
  |str=>exact fun h=>h
  |unit=>exact fun h=>h
  |pair a b iha ihb =>
   intro x j cs h;obtain⟨c1,c2,e,h1,h2⟩:=h;exact⟨c1,c2,e,iha h1,ihb h2⟩
  |sl e t _ =>
   intro x j cs h;obtain⟨v,rows,h1,h2,h3,h4,h5⟩:=h;exact⟨v,rows,h1,h2,h3,fun g hg=>ho g _ (h4 g hg),mr he h5⟩
 intro rs
 induction rs with
 |nil=>exact fun h=>h
 |cons a l ih =>
  intro x j vs h;obtain⟨v,vs',e,⟨cs,h1,h2⟩,h3⟩:=h;exact⟨v,vs',e,⟨cs,frc h1,h2⟩,ih h3⟩
theorem amP (h:Inv w0 G st a w){p:Ty×Bool}{c:List AC}{cs:Array Value}(hrel:cT (bN G w st.bx st.bl) c cs.toList)(hno:xh c=true){y:p.1.D}(hi:imV st p (.agg c)=some y){ok:Nat->Prop}
  (dO:∀f e t xs,AC.ro f e t xs∈c->∀g,RO G f g->ok g):eQ w ok [p] (y,()) [.agg cs]:=by
 refine⟨_,[],rfl,azS h (x:=.agg c) (u:=.agg cs) ⟨cs,rfl,hrel⟩ (fun t c' v xs hm hr hd=>?_) hi,rfl⟩;refine kD h hr hd (fun id len b hcc _=>?_) (fun f e u ys hcc=>?_)
 ·subst hcc;exact absurd hm (afE hno id len)
 ·subst hcc;exact dO f e u ys hm
theorem axc (l m:List CV):aU (l++m)=aU l++aU m:=by
 induction l with
 |nil=>rfl
 |cons c l ih=>simp[aU,ih]
theorem U1 (h':Inv w0 G st a w){w1:World}{ok nw:Nat->Prop}{own:Nat->Option Nat}{g0:Nat}{u:Value}(hnw:G.nw=nw)(dO:G.ok=ok)(UR:w0.pv=u)(afH:∀g k,G.own g=some k->w1.heap.size<=g\/(own g).isSome=true)
  {con:OE} (kt:con.pm=.rd->∀g k,G.own g=some k->w1.heap.size<=g) (aMk:con.pm=.box\/con.pm=.cur->u=.pointer (some ⟨g0,0,none⟩)) {l:List CV} {us:List Value} (hus:cT (fh G w st.bx st.bl) l us) {r:Args con.rs×Args con.qs}
  (gX:aqw st con.pm con.rs con.qs con.m l=some r):amw con w1 w ok nw own g0 u r us:=by
 obtain⟨ps,i,pm,rs,m,qs,g⟩:=con;dsimp only at *;subst hnw;subst dO;have hE:∀(b8:Nat->Option Nat),(∀g,G.own g=none->b8 g=none)->∀g,RO G (m2 m) g->b8 g=none/\(G.nw g\/(m2 m=false/\G.ok g)):=fun b8 h g hg=>⟨h g hg.1,hg.2⟩
 unfold aqw at gX;cases pm with
 |rd =>
  dsimp only at gX;split at gX
  ·split at gX
   ·rename_i fl hm;split at gX
    ·rename_i _ b;split at gX
     ·rename_i c hc;split at gX
      ·rename_i hck;rw[aJ]at hck;split at gX
       ·rename_i r0 Xy;cases gX;obtain⟨cs,e,hh,bH,hrel⟩:=h'.bx b c hc;obtain⟨v,rfl⟩:∃v,us=[v]:=by
         cases us with
         |nil=>exact hus.elim
         |cons v us =>
          cases us with
          |nil=>exact⟨v,rfl⟩
          |cons _ _=>exact hus.2.elim
        have hv:v=.pointer (some ⟨G.hb b,0,none⟩):=hus.1.2;have hsz:=kt rfl _ _ bH;refine⟨fun g=>if g=G.hb b then some 0 else none,fun g j hg=>?_,trivial,?_⟩
        ·dsimp only at hg;split at hg
         ·rename_i he;exact .inl (he▸hsz)
         ·cases hg
        ·have key:eQ w (fun g=>(if g=G.hb b then some 0 else none)=(none:Option Nat)/\(G.nw g\/(fl=false/\G.ok g))) rs r0 [.agg cs]:=by
          match rs,r0,Xy with
          |[p],r0,Xy =>
           simp only[Bn]at Xy;split at Xy
           ·rename_i y hy;cases Xy;refine amP h' hrel hck.2 hy fun f e t xs hm g hg=>⟨?_,?_⟩
            ·have:g≠G.hb b:=by rintro rfl;have:=hg.1;rw[bH]at this;cases this
             simp[this]
            ·have:=asA _ hck.1 _ hm;refine hg.2.imp_right fun h=>⟨?_,h.2⟩
             cases fl with
             |false=>rfl
             |true =>
              have hf:=this rfl;rw[hf]at h;cases h.1
           ·cases Xy
          |[],_,Xy=>simp[Bn]at Xy
          |_::_::_,_,Xy =>
           simp only[Bn]at Xy;split at Xy<;>cases Xy
         unfold rdM at hm;split at hm
         ·cases hm;exact⟨G.hb b,cs,e,by rw[hv],hsz,by simp,hh,kE (fun g hg=>⟨hg.1,hg.2.elim (fun h=>h) fun h=>by cases h.1⟩) key⟩
         ·cases hm;exact⟨G.hb b,cs,e,by rw[hv],hsz,by simp,hh,kE (fun g hg=>⟨hg.1,hg.2.imp_right fun h=>h.2⟩) key⟩
         ·cases hm
       ·cases gX
      ·cases gX
     ·cases gX
    ·cases gX
   ·cases gX
  ·cases gX
 |own f =>
  dsimp only at gX;split at gX
  ·rename_i hm;rw[mn]at hm;have hm':m=2\/m=3:=hm.imp aP aP;split at gX
   ·split at gX
    ·rename_i hck;rw[aJ]at hck;split at gX
     ·rename_i r0 Xy;cases gX;have db:=(Hb hm' (hE (cS G (aU l)) fun g hg=>by simp[cS,hg]) h' (aU l) [] rs l us r0 hus (pre:=[]) (seen:=[]) (by simp) (fun id len hm=>by simp at hm) (by rw[ie];exact hck.1) hck.2 Xy).1;refine⟨cS G (aU l),fun g j hg=>?_,rfl,?_⟩
      ·unfold cS at hg;split at hg
       ·rename_i id hid;exact afH g _ hid
       ·cases hg
      ·rcases hm' with rfl|rfl<;>exact db
     ·cases gX
    ·cases gX
   ·rename_i q;split at gX
    ·rename_i c hc;split at gX
     ·rename_i hck;simp only[aJ]at hck;obtain⟨⟨hk1,hk2⟩,hk3⟩:=hck;split at gX
      ·rename_i r0 y0 Xy hy0;cases gX;have hu:fh G w st.bx st.bl c u:=by have:=h'.sp;rw[hc,UR]at this;exact this
       rw[axc]at hk1;obtain⟨db,acK,h1,h2,h3⟩:=Hb hm' (hE (cS G (aU l++aU [c])) fun g hg=>by simp[cS,hg]) h' (aU l++aU [c]) (aU [c]) rs l us r0 hus (pre:=[]) (seen:=[]) (by simp) (fun id len hm=>by simp at hm) hk1 hk2 Xy;obtain⟨aJs,_⟩:=Hb hm' (hE (cS G (aU l++aU [c])) fun g hg=>by simp[cS,hg]) h' (aU l++aU [c]) [] [q] [c] [u] y0 ⟨hu,trivial⟩ (pre:=aU l) (seen:=acK) (by simp) (fun id len hm=>h2 id len (by simpa using hm)) (by rw[ie];exact h1) hk3 hy0;rw[h3]at aJs;refine⟨cS G (aU l++aU [c]),fun g j hg=>?_,aJs,?_⟩
       ·unfold cS at hg;split at hg
        ·rename_i id hid;exact afH g _ hid
        ·cases hg
       ·rcases hm' with rfl|rfl<;>exact db
      ·cases gX
     ·cases gX
    ·cases gX
   ·cases gX
  ·cases gX
 |box =>
  dsimp only at gX;generalize hsv:st.sp=sv at gX;split at gX
  ·rename_i b q;have aKn:=hsv;split at gX
   ·rename_i c hc;split at gX
    ·rename_i hck;simp only[aJ]at hck;obtain⟨⟨⟨hno,hk1⟩,hk2⟩,hk3⟩:=hck;split at gX
     ·rename_i r0 y0 Xy hy0;cases gX;obtain⟨cs,e,hh,bH,hrel⟩:=h'.bx b c hc;have hg0:G.hb b=g0:=by
       have h1:=h'.sp;rw[aKn,UR,aMk (.inl rfl)]at h1;have h2:Value.pointer (some ⟨g0,0,none⟩)=.pointer (some ⟨G.hb b,0,none⟩):=h1.2;injection h2 with h2
       injection h2 with h2
       injection h2 with h2
       exact h2.symm
      subst hg0;have auy:∀g,G.own g=none->g≠G.hb b:=by rintro g hg rfl;rw[bH]at hg;cases hg
      by_cases hm:m<=1
      ·
       refine⟨fun g=>if g=G.hb b then some (nOf rs) else none,fun g j hg=>?_,⟨⟨nOf rs,by simp,cp _⟩,cs,e,hh,?_⟩,?_⟩
       ·dsimp only at hg;split at hg
        ·rename_i he;exact he▸afH _ _ bH
        ·cases hg
       ·refine amP h' hrel hno hy0 fun f e t xs hm g hg=>⟨by simp[auy g hg.1],hg.2.imp_right fun h=>h.2⟩
       ·have hm':m=0\/m=1:=by omega
        have hbl:∀g id,G.own g=some (.bl id)->g≠G.hb b:=by rintro g id hg rfl;rw[bH]at hg;cases hg
        rcases hm' with rfl|rfl
        ·exact afG h' hus hk1 Xy (fun f g _ hg=>⟨by simp[auy g hg.1],hg.2.imp_right fun h=>h.2⟩) (fun g id hg=>⟨by simp[hbl g id hg],.inl (h'.Uz hg)⟩) (.inl rfl)
        ·exact afG h' hus hk1 Xy (fun f g hf hg=>⟨by simp[auy g hg.1],hg.2.elim (fun h=>h) fun h=>by rw[hf (by simp)]at h;cases h.1⟩) (fun g id hg=>⟨by simp[hbl g id hg],h'.Uz hg⟩) (.inr rfl)
      ·have hm':m=2\/m=3:=by have:=Ff hk3;omega
       have aOt:x4 st rs l=true:=by rcases hm' with rfl|rfl<;>exact hk2
       have db:=(Hb hm' (okE:=fun g=>G.own g=none/\(G.nw g\/(m2 m=false/\G.ok g))) (fun g hg=>⟨hg.1,hg.2⟩) h' (aU l) [] rs l us r0 hus (pre:=[]) (seen:=[]) (by simp) (fun id len hm=>by simp at hm) (by rw[ie];exact hk1) aOt Xy).1;have axd:∀g,G.own g=none->(if g=G.hb b then some (nOf rs) else cS G (aU l) g)=none:=by intro g hg;rw[ah (auy g hg)];simp[cS,hg]
       refine⟨fun g=>if g=G.hb b then some (nOf rs) else cS G (aU l) g,fun g j hg=>?_,⟨⟨nOf rs,by simp,cp _⟩,cs,e,hh,?_⟩,?_⟩
       ·dsimp only at hg;split at hg
        ·rename_i he;exact he▸afH _ _ bH
        ·unfold cS at hg;split at hg
         ·rename_i id hid;exact afH g _ hid
         ·cases hg
       ·refine amP h' hrel hno hy0 fun f e t xs hm g hg=>⟨axd g hg.1,hg.2.imp_right fun h=>h.2⟩
       ·have aMm:=p7.axb (b8:=fun g=>if g=G.hb b then some (nOf rs) else cS G (aU l) g) (amA:=fun g=>(if g=G.hb b then some (nOf rs) else cS G (aU l) g)=none/\(G.nw g\/(m2 m=false/\G.ok g))) (fun g j hg=>by
         have:g≠G.hb b:=by rintro rfl;simp[cS,bH]at hg
         simp[this,hg]) (fun g hg=>⟨axd g hg.1,hg.2⟩) db
        rcases hm' with rfl|rfl<;>exact aMm
     ·cases gX
    ·cases gX
   ·cases gX
  ·cases gX
 |cur =>
  dsimp only at gX;generalize hsv:st.sp=sv at gX;split at gX
  ·rename_i b q;have aKn:=hsv;split at gX
   ·rename_i c hc;split at gX
    ·rename_i hck;simp only[aJ]at hck;obtain⟨⟨⟨⟨hno,hna⟩,hk1⟩,hk2⟩,hk3⟩:=hck;split at gX
     ·rename_i r0 y0 Xy hy0;cases gX;obtain⟨cs,e,hh,bH,hrel⟩:=h'.bx b c hc;have hg0:G.hb b=g0:=by
       have h1:=h'.sp;rw[aKn,UR,aMk (.inr rfl)]at h1;have h2:Value.pointer (some ⟨g0,0,none⟩)=.pointer (some ⟨G.hb b,0,none⟩):=h1.2;injection h2 with h2
       injection h2 with h2
       injection h2 with h2
       exact h2.symm
      subst hg0;have auy:∀g,G.own g=none->g≠G.hb b:=by rintro g hg rfl;rw[bH]at hg;cases hg
      have aJt:∀f e t xs,AC.ro f e t xs∈c->f=true:=fun f e t xs hm=>OJ hna f e t xs hm
      by_cases hm:m<=1
      ·refine⟨fun g=>if g=G.hb b then some (nOf rs) else none,fun g j hg=>?_,⟨⟨nOf rs,by simp,cp _⟩,cs,e,hh,?_⟩,?_⟩
       ·dsimp only at hg;split at hg
        ·rename_i he;exact he▸afH _ _ bH
        ·cases hg
       ·refine amP h' hrel hno hy0 fun f e t xs hm g hg=>⟨by simp[auy g hg.1],hg.2.elim (fun h=>h) fun h=>by rw[aJt f e t xs hm]at h;cases h.1⟩
       ·have hm':m=0\/m=1:=by omega
        have hbl:∀g id,G.own g=some (.bl id)->g≠G.hb b:=by rintro g id hg rfl;rw[bH]at hg;cases hg
        rcases hm' with rfl|rfl
        ·exact afG h' hus hk1 Xy (fun f g _ hg=>⟨by simp[auy g hg.1],hg.2.imp_right fun h=>h.2⟩) (fun g id hg=>⟨by simp[hbl g id hg],.inl (h'.Uz hg)⟩) (.inl rfl)
        ·exact afG h' hus hk1 Xy (fun f g hf hg=>⟨by simp[auy g hg.1],hg.2.elim (fun h=>h) fun h=>by rw[hf (by simp)]at h;cases h.1⟩) (fun g id hg=>⟨by simp[hbl g id hg],h'.Uz hg⟩) (.inr rfl)
      ·have hm':m=2:=by have:=Ff hk3;omega
       subst hm';have db:=(Hb (.inl rfl) (okE:=fun g=>G.own g=none/\(G.nw g\/(m2 2=false/\G.ok g))) (fun g hg=>⟨hg.1,hg.2⟩) h' (aU l) [] rs l us r0 hus (pre:=[]) (seen:=[]) (by simp) (fun id len hm=>by simp at hm) (by rw[ie];exact hk1) hk2 Xy).1;have axd:∀g,G.own g=none->(if g=G.hb b then some (nOf rs) else cS G (aU l) g)=none:=by intro g hg;rw[ah (auy g hg)];simp[cS,hg]
       refine⟨fun g=>if g=G.hb b then some (nOf rs) else cS G (aU l) g,fun g j hg=>?_,⟨⟨nOf rs,by simp,cp _⟩,cs,e,hh,?_⟩,?_⟩
       ·dsimp only at hg;split at hg
        ·rename_i he;exact he▸afH _ _ bH
        ·unfold cS at hg;split at hg
         ·rename_i id hid;exact afH g _ hid
         ·cases hg
       ·refine amP h' hrel hno hy0 fun f e t xs hm g hg=>⟨axd g hg.1,hg.2.elim (fun h=>h) fun h=>by rw[aJt f e t xs hm]at h;cases h.1⟩
       ·exact p7.axb (b8:=fun g=>if g=G.hb b then some (nOf rs) else cS G (aU l) g) (amA:=fun g=>(if g=G.hb b then some (nOf rs) else cS G (aU l) g)=none/\(G.nw g\/(m2 2=false/\G.ok g))) (fun g j hg=>by
         have:g≠G.hb b:=by rintro rfl;simp[cS,bH]at hg
         simp[this,hg]) (fun g hg=>⟨axd g hg.1,hg.2⟩) db
     ·cases gX
    ·cases gX
   ·cases gX
  ·cases gX
theorem YY {T : Tab} (hC : ∀ f con, C f = some con → tJ P T f con) {f : FuncId} {fn : Func} {con : OE} (hf : P.funcs[f]? = some fn) (hn : (fn.name == "runtime.NumGoroutine") = false) (hb : fn.body.isNone = false) (hq : aDx con)
  (H:Nat->Option Hint) (hrun:∀x r,con.g x=some r->∃N,aBM P C (rT.QY N) H fn con.ps con.i con.pm con.rs con.qs con.m x=some r):amx P T f con:=by
 refine⟨⟨fn,hf,hn,hb⟩,hq,fun x r hg w hTw ok nw own g0 vs u hh hin=>?_⟩;obtain⟨N,hr⟩:=hrun x r hg;obtain⟨hc,hr⟩:=aY hr;simp only[aJ]at hc;obtain⟨⟨⟨hc1,hc2⟩,hc3⟩,hc4⟩:=hc;obtain⟨c,aii⟩:∃c,fn.body=some c:=by
  cases h:fn.body with
  |none=>rw[h]at hb;cases hb
  |some c=>exact⟨c,rfl⟩
 have axa:j1 fn=c:=by simp[j1,aii]
 rw[axa]at hr;obtain⟨L,B,hS,hL,hB,hrel,UR,aMn⟩:=aaY hh con.i con.ps x vs hc3 hin;have hlen:vs.length=con.ps.length:=by rw[<-auw (pm:=con.pm) con.i con.ps x (il hc2)];exact hrel.len.symm
 have aF0:∀g,(∃k,(Yg ok nw own L B).own g=some k)->∃j,own g=some j:=by
  rintro g ⟨k,hk⟩;simp only[Yg]at hk;cases ho:own g with
  |none=>rw[ho]at hk;cases hk
  |some j=>exact⟨j,rfl⟩
 have aKo:∀g,(∃k,(Yg ok nw own L B).own g=some k)->nw g:=by intro g hg;obtain⟨j,hj⟩:=aF0 g hg;exact(hh.bH g j hj).1
 let R:fJ:={w:=w,ok:=ok,nw:=nw,fr:=fun g=>∃k,(Yg ok nw own L B).own g=some k,hnw:=hh.mq,pv:=u,hfr:=aKo}
 have aaZ:∀g,R.fr g->∃j,own g=some j:=aF0;have aAb:Inv R (Yg ok nw own L B) (afp fn.ntmps con.pm con.i con.ps x) {tmps:=vs.toArray++Array.replicate (fn.ntmps-vs.toArray.size) undef,defers:=[]} w:=by unfold afp;rw[hL,hB];refine asC (R:=R) hh rfl rfl rfl rfl (fun g k hk=>Exists.intro k hk) hS rfl ?_ UR (fun t v hv=>aAa hrel hv);have:=Ff hc1;simp[hlen];omega
 refine calls_of_wp hf aii (rZ (w0:=R) (fun f con hf=>(hC f con hf).at hTw fun b hb=>by obtain⟨j,hj⟩:=aaZ b hb;exact(hh.bH b j hj).2.2) H c (aAb.azH (ar9 H)) hr fun e G' dK a' w' h' lI=>?_)
 have post:∀e,e=Exit.normal\/e=Exit.ret->(match QZ P dK fn.results.toList with
   |some l=>aqw dK con.pm con.rs con.qs con.m l
   |none=>none)=some r->bodyPost P fn (fun e w'=>∃us,e=.returned (fS us)/\amw con w w' ok nw own g0 u r us/\fB (fun g=>(own g).isSome=true) w w') e a' w':=by
  intro e he lI;split at lI
  ·rename_i l hl;obtain⟨us,hus,db⟩:=UY (P:=P) h' hl;have afH:∀g k,G'.own g=some k->w.heap.size<=g\/(own g).isSome=true:=by
    intro g k hk;rcases(h'.own g k hk).1 with h1|h1
    ·exact .inl h1
    ·obtain⟨j,hj⟩:=aaZ g h1;exact .inr (by rw[hj];rfl)
   have hR:∃us',Ending.returned (fS us)=.returned (fS us')/\amw con w w' ok nw own g0 u r us'/\fB (fun g=>(own g).isSome=true) w w':=by
    refine⟨us,rfl,U1 h' h'.nw h'.rok rfl afH (fun hp g k hk=>?_) (fun hp=>?_) hus lI,?_⟩
    ·rcases(h'.own g k hk).1 with h1|h1
     ·exact h1
     ·obtain⟨k',hk'⟩:=h1;obtain⟨e1,e2⟩:=aMn hp;subst e1;subst e2;simp only[Yg,Cu,N3]at hk';split at hk'<;>cases hk'
    ·have:∀(i:Nat) (ps:List (Ty×Bool)) (x:Args ps) (vs:List Value),UJ w ok nw own g0 con.pm i ps x vs u->u=.pointer (some ⟨g0,0,none⟩):=by
      intro i
      induction i with
      |zero =>
       intro ps x vs h;cases ps with
       |nil=>exact h.elim
       |cons p ps =>
        obtain⟨vs',_,h1,_⟩:=h;rcases hp with hp|hp<;>rw[hp]at h1<;>exact h1.1
      |succ i ih =>
       intro ps x vs h;cases ps with
       |nil=>exact h.elim
       |cons p ps =>
        obtain⟨v,vs',_,_,h1⟩:=h;exact ih ps x.2 vs' h1
     exact this _ _ _ _ hin
    ·exact⟨h'.below.os,h'.below.tape,h'.below.output,h'.below.size,fun k hk hf=>h'.below.block k hk fun hfr=>hf (by obtain⟨j,hj⟩:=aaZ k hfr;rw[hj];rfl)⟩
   rcases he with rfl|rfl
   ·exact bodyPost_end db h'.defers hR
   ·exact bodyPost_ret db h'.defers hR
  ·cases lI
 cases e with
 |norm=>exact post .normal (.inl rfl) lI
 |ret=>exact post .ret (.inr rfl) lI
 |exit j=>cases lI
theorem aIb {a b:Ty×Bool}{ca cb:CV}{r0:Args [a,b]×Args []}{n:Args [b]}(h:aqw st (.own true) [a,b] [] 2 [ca,cb]=some r0)(hn:Bn st [b] [cb]=some n):r0.1.2.1=n.1:=by
 simp only[aqw,Nat.beq,al9]at h;split at h
 ·split at h
  ·rename_i r hr;cases h;simp only[Bn]at hr hn;split at hr
   ·split at hr
    ·rename_i y hy;split at hy
     ·rename_i z hz;rw[hz]at hn;cases hn;cases hy;cases hr;rfl
     ·cases hy
    ·cases hr
   ·cases hr
  ·cases h
 ·cases h
theorem aIc {b q:Ty×Bool}{cb:CV}{r0:Args [b]×Args [q]}{n:Args [b]}(h:aqw st (.own true) [b] [q] 2 [cb]=some r0)(hn:Bn st [b] [cb]=some n):r0.1.1=n.1:=by
 simp only[aqw,Nat.beq,al9]at h;split at h
 ·split at h
  ·split at h
   ·rename_i r y hr hy;cases h;rw[hn]at hr;cases hr;rfl
   ·cases h
  ·cases h
 ·cases h
theorem aqJ {T : Tab} (hC : ∀ f con, C f = some con → tJ P T f con) {f : FuncId} {fn : Func} {con : Sel} (hf : P.funcs[f]? = some fn) (hn : (fn.name == "runtime.NumGoroutine") = false) (hb : fn.body.isNone = false) (hq : nX con.ps con.i = some con.q)
  (H:Nat->Option Hint) (hrun:∀x r,con.g x=some r->∃N,aqx P C (rT.QY N) H fn con.ps con.i con.a con.b con.q x=some r):amy P T f con:=by
 refine⟨⟨fn,hf,hn,hb⟩,hq,fun x r hg w hTw ok nw own g0 vs u hh hin=>?_⟩;obtain⟨N,hr⟩:=hrun x r hg;obtain⟨hc,hr⟩:=aY hr;simp only[aJ]at hc;obtain⟨⟨⟨hc1,hc2⟩,hc3⟩,hc4⟩:=hc;obtain⟨c,aii⟩:∃c,fn.body=some c:=by
  cases h:fn.body with
  |none=>rw[h]at hb;cases hb
  |some c=>exact⟨c,rfl⟩
 have axa:j1 fn=c:=by simp[j1,aii]
 rw[axa]at hr;obtain⟨L,B,hS,hL,hB,hrel,UR,aMn⟩:=aaY hh con.i con.ps x vs hc3 hin;have hlen:vs.length=con.ps.length:=by rw[<-auw (pm:=(.own true)) con.i con.ps x (il hc2)];exact hrel.len.symm
 have aF0:∀g,(∃k,(Yg ok nw own L B).own g=some k)->∃j,own g=some j:=by
  rintro g ⟨k,hk⟩;simp only[Yg]at hk;cases ho:own g with
  |none=>rw[ho]at hk;cases hk
  |some j=>exact⟨j,rfl⟩
 have aKo:∀g,(∃k,(Yg ok nw own L B).own g=some k)->nw g:=by intro g hg;obtain⟨j,hj⟩:=aF0 g hg;exact(hh.bH g j hj).1
 let R:fJ:={w:=w,ok:=ok,nw:=nw,fr:=fun g=>∃k,(Yg ok nw own L B).own g=some k,hnw:=hh.mq,pv:=u,hfr:=aKo}
 have aaZ:∀g,R.fr g->∃j,own g=some j:=aF0;have aAb:Inv R (Yg ok nw own L B) (afp fn.ntmps (.own true) con.i con.ps x) {tmps:=vs.toArray++Array.replicate (fn.ntmps-vs.toArray.size) undef,defers:=[]} w:=by unfold afp;rw[hL,hB];refine asC (R:=R) hh rfl rfl rfl rfl (fun g k hk=>Exists.intro k hk) hS rfl ?_ UR (fun t v hv=>aAa hrel hv);have:=Ff hc1;simp[hlen];omega
 refine calls_of_wp hf aii (rZ (w0:=R) (fun f con hf=>(hC f con hf).at hTw fun b hb=>by obtain⟨j,hj⟩:=aaZ b hb;exact(hh.bH b j hj).2.2) H c (aAb.azH (ar9 H)) hr fun e G' dK a' w' h' lI=>?_)
 have post:∀e,e=Exit.normal\/e=Exit.ret->azG P fn con.a con.b con.q Ex.norm dK=some r->bodyPost P fn (fun e w'=>∃us,e=.returned (fS us)/\aHZ con w w' ok nw own g0 u r us/\fB (fun g=>(own g).isSome=true) w w') e a' w':=by
  intro e he lI;simp only[azG]at lI;split at lI
  ·rename_i ca cb hl;obtain⟨us,hus,db⟩:=UY (P:=P) h' hl;obtain⟨va,vb,rfl⟩:∃va vb,us=[va,vb]:=by
    match us,hus with
    |[va,vb],_=>exact⟨va,vb,rfl⟩
    |[],h=>exact h.elim
    |[_],h=>exact h.2.elim
    |_::_::_::_,h=>exact h.2.2.elim
   have afH:∀g k,G'.own g=some k->w.heap.size<=g\/(own g).isSome=true:=by
    intro g k hk;rcases(h'.own g k hk).1 with h1|h1
    ·exact .inl h1
    ·obtain⟨j,hj⟩:=aaZ g h1;exact .inr (by rw[hj];rfl)
   have hR:∃us',Ending.returned (fS [va,vb])=.returned (fS us')/\aHZ con w w' ok nw own g0 u r us'/\fB (fun g=>(own g).isSome=true) w w':=by
    refine⟨[va,vb],rfl,⟨va,vb,rfl,?_⟩,?_⟩
    ·split at lI
     ·rename_i n hn;cases hdn:ama con.b.1 n.1 with
      |true =>
       rw[hdn]at lI;simp only[br]at lI;split at lI
       ·rename_i r0 Xy;cases lI;have hb:r0.1.2.1=n.1:=aIb Xy hn;dsimp only;rw[hb,hdn];have:=U1 (con:=aJ3 con) h' h'.nw h'.rok (g0:=g0) rfl afH (fun hp=>by cases hp) (fun hp=>by rcases hp with hp|hp<;>cases hp) hus Xy;rw[<-hb];exact this
       ·cases lI
      |false =>
       rw[hdn]at lI;simp only[br]at lI;obtain⟨aue,lI⟩:=aY lI;split at lI
       ·rename_i r0 Xy;cases lI;have hb:r0.1.1=n.1:=aIc Xy hn;dsimp only;rw[hb,hdn];have:=U1 (con:=aLM con) h' h'.nw h'.rok (g0:=g0) rfl afH (fun hp=>by cases hp) (fun hp=>by rcases hp with hp|hp<;>cases hp) (l:=[cb]) (us:=[vb]) ⟨hus.2.1,trivial⟩ Xy;rw[<-hb];refine⟨this,fun ha=>?_⟩;unfold aI5 at aue;rw[ha]at aue;split at aue
        ·rename_i l;obtain⟨vs,rfl,hrel⟩:=hus.1;rw[aJ]at aue;exact⟨vs,rfl,by rw[<-hrel.len,aP aue.1],alE hrel (acC aue.2)⟩
        ·cases aue
        ·contradiction
       ·cases lI
     ·cases lI
    ·exact⟨h'.below.os,h'.below.tape,h'.below.output,h'.below.size,fun k hk hf=>h'.below.block k hk fun hfr=>hf (by obtain⟨j,hj⟩:=aaZ k hfr;rw[hj];rfl)⟩
   rcases he with rfl|rfl
   ·exact bodyPost_end db h'.defers hR
   ·exact bodyPost_ret db h'.defers hR
  ·cases lI
 cases e with
 |norm=>exact post .normal (.inl rfl) lI
 |ret=>exact post .ret (.inr rfl) lI
 |exit j=>cases lI
end
end Go.Am
