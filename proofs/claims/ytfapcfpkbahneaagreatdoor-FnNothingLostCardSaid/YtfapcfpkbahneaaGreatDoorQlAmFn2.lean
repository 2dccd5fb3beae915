/- Lemmas for the claim. No condition. -/
import Derived.Test.YtfapcfpkbahneaaGreatDoorQlAmFn
set_option linter.all false
namespace Go.Am
open Go.RowKit
section
variable {N:Nat} {P:Program} {C:FuncId→Option Any} {w0:fK} {w:World} {G:Gh} {st:St} {a:Act}
def XF (ok nw:Nat→Prop)(own:Nat→Option Nat)(L:List (Nat×gq×Value))(B:Option (Nat×Nat×List AC)):Gh :=
 {nw:=nw,ok:=ok,hb:=fun _=>match B with|some (_,g0,_)=>g0|none=>0,hv:=fun i=>hvL L i,own:=fun g=>match own g with|none=>none|some _=>Cj L B g}
def Ur:Option (Nat×Nat×List AC)→List (Nat×List AC)
 |none=>[]
 |some (d,_,l)=>[(d,l)]
def aja (L:List (Nat×gq×Value)):List (Nat×Option gq):=L.map fun z=>(z.1,some z.2.1)
structure atW (w:World) (ok nw:Nat→Prop) (own:Nat→Option Nat) (L:List (Nat×gq×Value)) (B:Option (Nat×Nat×List AC)):Prop where
 row:∀z∈L,z.2.1.w=true∧0<z.2.1.t.n∧(∃rows,w.ownsRow 0 z.2.1.e z.2.1.t.n z.2.2 z.2.1.xs.length rows∧fM w (fun g=>own g=none∧(nw g∨(z.2.1.f=false∧ok g))) z.2.1.t rows z.2.1.xs)∧∀g,z.2.2.ownBlock=some g→(own g).isSome=true
 inj:∀z∈L,∀z'∈L,∀g,z.2.2.ownBlock=some g→z'.2.2.ownBlock=some g→z=z'
 uniq:∀z∈L,∀z'∈L,z.1=z'.1→z=z'
 box:∀d g l,B=some (d,g,l)→(own g).isSome=true∧L=[]∧∃cs e f t x,w.heap[g]?=some (.cells cs e (0,0))∧l=ex f t x∧Rd w (fun g=>own g=none∧(nw g∨(f=false∧ok g))) t x cs.toList
theorem Us {ok nw:Nat→Prop}{own:Nat→Option Nat}{L:List (Nat×gq×Value)}{B:Option (Nat×Nat×List AC)}{f:Bool}{g:Nat}(h:own g=none∧(nw g∨(f=false∧ok g))):RO (XF ok nw own L B) f g :=
 ⟨by simp[XF,h.1],h.2⟩
theorem ar4 {ok nw:Nat→Prop}{own:Nat→Option Nat}{Bd:Nat→Prop}(hh:Handed w Bd ok nw own){R:fK}(hhd:R.hd=fun _=>none)(hw:R.w=w)(dS:R.ok=ok)(hnw:R.nw=nw){L:List (Nat×gq×Value)}{B:Option (Nat×Nat×List AC)}
  (hfr:∀g k,(XF ok nw own L B).own g=some k→R.fr g) (hS:atW w ok nw own L B) {nt:Nat} {tm:List (Nat×AV)} {sp:AV} (hd:a.defers=[]) (hs:a.tmps.size=nt)
  (Uk:jW (XF ok nw own L B) w (Ur B) (aja L) sp R.pv) (htm:∀t v,look tm t=some v→jW (XF ok nw own L B) w (Ur B) (aja L) v (a.tmps.getD t undef)) :
  Inv R (XF ok nw own L B) {nt:=nt,tm:=tm,bx:=Ur B,bl:=aja L,sp:=sp} a w:=by
 subst hw
 have aMd:∀z∈L,∀g,z.2.2.ownBlock=some g→(XF ok nw own L B).own g=some (.bl z.1):=by
  intro z hz g hg
  have ho:=(hS.row z hz).2.2.2 g hg
  obtain⟨j,hj⟩:=mg.1 ho
  have hB:B=none:=by
   cases B with
   |none=>rfl
   |some q =>
    obtain⟨d,g0,l⟩:=q
    have:=(hS.box d g0 l rfl).2.1
    rw[this]at hz
    simp at hz
  subst hB
  simp only[XF,hj,Cj]
  unfold Nx
  cases hf:L.find? fun z=>z.2.2.ownBlock==some g with
  |none =>
   have:=alu.1 hf z hz
   simp[hg]at this
  |some y =>
   have h1:=ahj hf
   have h2:=X7 hf
   rw[←hS.inj z hz y h2 g hg (by simpa using h1)]
   rfl
 refine⟨hnw.symm,dS.symm,fE.refl _ _,hd,hs,Uk,fun g b o hm=>(by rw[hhd]at hm;cases hm),htm,fun d l hl=>?_,fun id b hb=>?_,fun g k hk=>?_⟩
 ·cases B with
  |none=>simp[Ur,look]at hl
  |some q =>
   obtain⟨d0,g0,l0⟩:=q
   simp only[Ur,aw]at hl
   by_cases hdd:d0=d
   ·rw[ak hdd]at hl
    cases hl
    subst hdd
    obtain⟨h1,h2,cs,e,f,t,x,h3,h4,h5⟩:=hS.box d0 g0 l rfl
    refine⟨cs,e,h3,?_,?_⟩
    ·obtain⟨j,hj⟩:=mg.1 h1
     simp[XF,hj,Cj]
    ·rw[h4]
     exact T4 (jo (fun g hg=>Us (f:=f) hg) h5)
   ·rw[ah hdd]at hl
    simp[look]at hl
 ·obtain⟨v,hv⟩:=ab7 hb
  obtain⟨h1,h2,⟨rows,h3,h4⟩,h5⟩:=hS.row _ hv
  have hhv:(XF ok nw own L B).hv id=v:=WV hS.uniq hv
  refine⟨fun _=>⟨rows,by rw[hhv];exact h3,fun g hg=>?_,ml (fun g hg=>Us hg) h4⟩,fun hw=>?_,h2⟩
  ·rw[hhv]at hg
   exact aMd _ hv g hg
  ·rw[show b.w=true from h1]at hw
   cases hw
 ·have hk0:=hk
  unfold XF at hk
  dsimp only at hk
  cases ho:own g with
  |none=>rw[ho]at hk;cases hk
  |some j =>
   rw[ho]at hk
   dsimp only at hk
   refine⟨.inr (hfr g k hk0),(hh.bG g j ho).2.1,?_⟩
   have rows:Nx L g=some k→aFg (XF ok nw own L B) (Ur B) (aja L) g k:=by
    intro hr
    unfold Nx at hr
    cases hf:L.find? fun z=>z.2.2.ownBlock==some g with
    |none=>rw[hf]at hr;cases hr
    |some y =>
     rw[hf]at hr
     cases hr
     have h1:=ahj hf
     have h2:=X7 hf
     refine⟨kN h2,?_⟩
     rw[show(XF ok nw own L B).hv y.1=y.2.2 from WV hS.uniq h2]
     simpa using h1
   cases B with
   |none=>have:=rows hk;cases k with|bx d=>exact this|bl id=>exact this|hid=>trivial
   |some q =>
    obtain⟨d0,g0,l0⟩:=q
    simp only[Cj]at hk
    by_cases he:g=g0
    ·rw[ak he]at hk
     cases hk
     exact⟨by simp[Ur,aw],by simp[XF,he]⟩
    ·rw[ah he]at hk
     have:=rows hk
     cases k with|bx d=>exact this|bl id=>exact this|hid=>trivial
theorem aBL {f:Bool}{G:Gh}{bx:List (Nat×List AC)}{bl:List (Nat×Option gq)}{p:Ty×Bool}{x:p.1.D}{v:Value}(hp:p.2=true∨p.1.n=1)(h:ab5 w (RO G f) p x v) :
  fk G w bx bl (match p.2 with|true=>.agg (ex f p.1 x)|false=>.c (match ex f p.1 x with|[c]=>c|_=>.none)) v:=by
 have:=Ci (f:=f) (bx:=bx) (bl:=bl) (rs:=[p]) (x:=(x,())) (vs:=[v]) (by
  simp only[fj,aJ,mh]
  exact⟨hp.imp_right fun h=>by rw[h];rfl,trivial⟩) ⟨v,[],rfl,h,rfl⟩
 exact this.1
theorem aan {ok nw:Nat→Prop}{own:Nat→Option Nat}{Bd:Nat→Prop}(hh:Handed w Bd ok nw own){g0:Nat}{u:Value}{pm:PM}:∀(i:Nat) (ps:List (Ty×Bool)) (x:Args ps) (vs:List Value),fj ps=true→Uc w ok nw own g0 pm i ps x vs u →
  ∃L B,atW w ok nw own L B∧(exP pm i ps x).2.2.1=aja L∧(exP pm i ps x).2.2.2=Ur B∧cR (fk (XF ok nw own L B) w (Ur B) (aja L)) (exP pm i ps x).1 vs∧fk (XF ok nw own L B) w (Ur B) (aja L) (exP pm i ps x).2.1 u ∧
   (pm=.rd→L=[]∧B=none)
 |0,[],x,vs,_,h=>h.elim
 |_+1,[],x,vs,_,h=>h.elim
 |0,p::ps,x,vs,hf,h=>by
  obtain⟨vs',rfl,Uk,amg⟩:=h
  simp only[fj,aJ,mh]at hf
  have hp:p.2=true∨p.1.n=1:=hf.1.imp_right aN
  have rest:∀L B,cR (fk (XF ok nw own L B) w (Ur B) (aja L)) (exF false ps x.2) vs':=fun L B =>
   Ci hf.2 (ku (fun g hg=>Us ⟨hh.dS g hg,.inr ⟨rfl,hg⟩⟩) amg)
  cases pm with
  |rd =>
   have hv:ab5 w ok p x.1 u:=Uk
   have h1:fk (XF ok nw own [] none) w (Ur none) (aja []) (aJC .rd p x.1).1 u:=aBL (f:=false) hp (by
    obtain⟨cs,h1,h2⟩:=hv
    exact⟨cs,jo (fun g hg=>Us (f:=false) ⟨hh.dS g hg,.inr ⟨rfl,hg⟩⟩) h1,h2⟩)
   exact⟨[],none,⟨fun z hz=>by simp at hz,fun z hz=>by simp at hz,fun z hz=>by simp at hz,fun d g l he=>by cases he⟩,rfl,rfl,⟨h1,rest [] none⟩,h1,fun _=>⟨rfl,rfl⟩⟩
  |own f =>
   have hv:aBz w (fun g=>own g=none∧(nw g∨(f=false∧ok g))) own p x.1 0 u:=Uk
   obtain⟨L,hF,hcv⟩:=aFc (id:=62500) (f:=f) hv hp
   have hS:atW w ok nw own L none:=by
    refine⟨fun z hz=>?_,fun z hz z' KR g hg hg'=>?_,hF.uniq,fun d g l he=>by cases he⟩
    ·obtain⟨h1,h2,h3⟩:=hF.rows z hz
     refine⟨h3.wr,h3.pos,?_,fun g hg=>by rw[h3.rP g hg];rfl⟩
     obtain⟨rows,h4,h5⟩:=h3.row
     exact⟨rows,h4,aeZ (fun T8 g hg=>by rw[h3.nf,T8,Bool.or_false];exact hg) h5⟩
    ·obtain⟨h1,_,h3⟩:=hF.rows z hz
     obtain⟨h4,_,h6⟩:=hF.rows z' KR
     have h7:=h3.rP g hg
     have h8:=h6.rP g hg'
     rw[h7]at h8
     have:=fR h8
     exact hF.uniq z hz z' KR (by omega)
   have hrel:∀c v,tP L c v→bN (XF ok nw own L none) w (Ur none) (aja L) c v:=by
    intro c v hc
    cases c with
    |own i len =>
     cases len with
     |some l=>exact hc.elim
     |none =>
      obtain⟨b,hb⟩:=hc
      have hhv:(XF ok nw own L none).hv i=v:=WV hS.uniq hb
      refine⟨kN hb,?_,hhv.symm⟩
      rw[hhv]
      obtain⟨_,_,⟨rows,ho,_⟩,_⟩:=hS.row _ hb
      rcases ho.2 with ⟨he,_⟩|⟨g',cap,cur,he,_⟩
      ·exact⟨_,_,_,he⟩
      ·exact⟨_,_,_,he⟩
    |int k n=>exact hc
    |bool b=>exact hc
    |str s=>exact hc
    |_=>exact hc.elim
   exact⟨L,none,hS,hF.q,rfl,⟨Ui hrel hcv,rest L none⟩,Ui hrel hcv,fun h=>by cases h⟩
  |box =>
   obtain⟨hu,bG,cs,e,hh',kc⟩:=(show u=.pointer (some ⟨g0,0,none⟩)∧(own g0).isSome=true∧∃cs e,w.heap[g0]?=some (.cells cs e (0,0))∧Rd w ok p.1 x.1 cs.toList from Uk)
   have hrel:fk (XF ok nw own [] (some (4000000,g0,ex false p.1 x.1))) w (Ur (some (4000000,g0,ex false p.1 x.1))) (aja []) (.c (.ptr 4000000 0)) u:=⟨by simp[Ur,aw],hu⟩
   refine⟨[],some (4000000,g0,ex false p.1 x.1),⟨fun z hz=>by simp at hz,fun z hz=>by simp at hz,fun z hz=>by simp at hz,fun d g l he=>?_⟩,rfl,rfl,⟨hrel,rest _ _⟩,hrel,fun h=>by cases h⟩
   cases he
   exact⟨bG,rfl,cs,e,false,p.1,x.1,hh',rfl,jo (fun g hg=>⟨hh.dS g hg,.inr ⟨rfl,hg⟩⟩) kc⟩
  |cur =>
   obtain⟨hu,bG,cs,e,hh',kc⟩:=(show u=.pointer (some ⟨g0,0,none⟩)∧(own g0).isSome=true∧∃cs e,w.heap[g0]?=some (.cells cs e (0,0))∧Rd w (fun g=>own g=none∧nw g) p.1 x.1 cs.toList from Uk)
   have hrel:fk (XF ok nw own [] (some (4000000,g0,ex true p.1 x.1))) w (Ur (some (4000000,g0,ex true p.1 x.1))) (aja []) (.c (.ptr 4000000 0)) u:=⟨by simp[Ur,aw],hu⟩
   refine⟨[],some (4000000,g0,ex true p.1 x.1),⟨fun z hz=>by simp at hz,fun z hz=>by simp at hz,fun z hz=>by simp at hz,fun d g l he=>?_⟩,rfl,rfl,⟨hrel,rest _ _⟩,hrel,fun h=>by cases h⟩
   cases he
   exact⟨bG,rfl,cs,e,true,p.1,x.1,hh',rfl,jo (fun g hg=>⟨hg.1,.inl hg.2⟩) kc⟩
 |i+1,p::ps,x,vs,hf,h=>by
  obtain⟨v,vs',rfl,hv,amg⟩:=h
  simp only[fj,aJ,mh]at hf
  have hp:p.2=true∨p.1.n=1:=hf.1.imp_right aN
  obtain⟨L,B,h1,h2,h3,h4,h5,h6⟩:=aan hh i ps x.2 vs' hf.2 amg
  refine⟨L,B,h1,h2,h3,⟨aBL (f:=false) hp ?_,h4⟩,h5,h6⟩
  obtain⟨cs,k1,k2⟩:=hv
  exact⟨cs,jo (fun g hg=>Us (f:=false) ⟨hh.dS g hg,.inr ⟨rfl,hg⟩⟩) k1,k2⟩
theorem atX {pm:PM}:∀(i:Nat) (ps:List (Ty×Bool)) (x:Args ps),i<ps.length→(exP pm i ps x).1.length=ps.length
 |0,p::ps,x,_=>by
  have:∀{f:Bool} {rs:List (Ty×Bool)} {y:Args rs},(exF f rs y).length=rs.length:=by
   intro f rs
   induction rs with
   |nil=>intro y;rfl
   |cons a l ih=>intro y;simp[exF,ih]
  simp[exP,this]
 |i+1,p::ps,x,h=>by
  have:=atX (pm:=pm) i ps x.2 (by simpa using h)
  simp[exP,this]
 |0,[],_,h=>by simp at h
 |_+1,[],_,h=>by simp at h
theorem pX.awE {w:World}{okE al2:Nat→Prop}{own cc:Nat→Option Nat}(ho:∀g j,own g=some j→cc g=some j)(he:∀g,okE g→al2 g):∀{rs:List (Ty×Bool)} {x:Args rs} {j:Nat} {vs:List Value},pX w okE own rs x j vs→pX w al2 cc rs x j vs:=by
 have frc:∀{t:Ty} {x:t.D} {j:Nat} {cs:List Value},FrC w okE own t x j cs→FrC w al2 cc t x j cs:=by
  intro t
  induction t with
  |int k=>exact fun h=>h
  |bool=>exact fun h=>h
  |str=>exact fun h=>h
  |unit=>exact fun h=>h
  |pair a b iha ihb =>
   intro x j cs h
   obtain⟨c1,c2,e,h1,h2⟩:=h
   exact⟨c1,c2,e,iha h1,ihb h2⟩
  |sl e t _ =>
   intro x j cs h
   obtain⟨v,rows,h1,h2,h3,h4,h5⟩:=h
   exact⟨v,rows,h1,h2,h3,fun g hg=>ho g _ (h4 g hg),ml he h5⟩
 intro rs
 induction rs with
 |nil=>exact fun h=>h
 |cons a l ih =>
  intro x j vs h
  obtain⟨v,vs',e,⟨cs,h1,h2⟩,h3⟩:=h
  exact⟨v,vs',e,⟨cs,frc h1,h2⟩,ih h3⟩
theorem amh (h:Inv w0 G st a w){p:Ty×Bool}{c:List AC}{cs:Array Value}(hrel:cR (bN G w st.bx st.bl) c cs.toList)(hno:xa c=true){y:p.1.D}(hi:imV st p (.agg c)=some y){ok:Nat→Prop}
  (dS:∀f e t xs,AC.ro f e t xs∈c→∀g,RO G f g→ok g):eU w ok [p] (y,()) [.agg cs]:=by
 refine⟨_,[],rfl,azk h (x:=.agg c) (u:=.agg cs) ⟨cs,rfl,hrel⟩ (fun t c' v xs hm hr hd=>?_) hi,rfl⟩
 refine kt h hr hd (fun id len b hcc _=>?_) (fun f e u ys hcc=>?_)
 ·subst hcc
  exact absurd hm (ae5 hno id len)
 ·subst hcc
  exact dS f e u ys hm
theorem awF (l m:List CV):aU (l++m)=aU l++aU m:=by
 induction l with
 |nil=>rfl
 |cons c l ih=>simp[aU,ih]
theorem Ut (h':Inv w0 G st a w){w1:World}{ok nw:Nat→Prop}{own:Nat→Option Nat}{g0:Nat}{u:Value}(hnw:G.nw=nw)(dS:G.ok=ok)(Uk:w0.pv=u)(ae8:∀g k,G.own g=some k→w1.heap.size≤g∨(own g).isSome=true)
  {con:N4} (kc:con.pm=.rd→∀g k,G.own g=some k→w1.heap.size≤g) (aMe:con.pm=.box∨con.pm=.cur→u=.pointer (some ⟨g0,0,none⟩)) {l:List CV} {us:List Value} (hus:cR (fk G w st.bx st.bl) l us) {r:Args con.rs×Args con.qs}
  (hJ:apZ st con.pm con.rs con.qs con.m l=some r):alY con w1 w ok nw own g0 u r us:=by
 obtain⟨ps,i,pm,rs,m,qs,g⟩:=con
 dsimp only at *
 subst hnw
 subst dS
 have hE:∀(cc:Nat→Option Nat),(∀g,G.own g=none→cc g=none)→∀g,RO G (m2 m) g→cc g=none∧(G.nw g∨(m2 m=false∧G.ok g)):=fun cc h g hg=>⟨h g hg.1,hg.2⟩
 unfold apZ at hJ
 cases pm with
 |rd =>
  dsimp only at hJ
  split at hJ
  ·split at hJ
   ·rename_i fl hm
    split at hJ
    ·rename_i _ b
     split at hJ
     ·rename_i c hc
      split at hJ
      ·rename_i hck
       rw[aJ]at hck
       split at hJ
       ·rename_i r0 WZ
        cases hJ
        obtain⟨cs,e,hh,bG,hrel⟩:=h'.bx b c hc
        obtain⟨v,rfl⟩:∃v,us=[v]:=by
         cases us with
         |nil=>exact hus.elim
         |cons v us =>
          cases us with
          |nil=>exact⟨v,rfl⟩
          |cons _ _=>exact hus.2.elim
        have hv:v=.pointer (some ⟨G.hb b,0,none⟩):=hus.1.2
        have hsz:=kc rfl _ _ bG
        refine⟨fun g=>if g=G.hb b then some 0 else none,fun g j hg=>?_,trivial,?_⟩
        ·dsimp only at hg
         split at hg
         ·rename_i he;exact .inl (he▸hsz)
         ·cases hg
        ·have key:eU w (fun g=>(if g=G.hb b then some 0 else none)=(none:Option Nat)∧(G.nw g∨(fl=false∧G.ok g))) rs r0 [.agg cs]:=by
          match rs,r0,WZ with
          |[p],r0,WZ =>
           simp only[A7]at WZ
           split at WZ
           ·rename_i y hy
            cases WZ
            refine amh h' hrel hck.2 hy fun f e t xs hm g hg=>⟨?_,?_⟩
            ·have:g≠G.hb b:=by
              rintro rfl
              have:=hg.1
              rw[bG]at this
              cases this
             simp[this]
            ·have:=ar2 _ hck.1 _ hm
             refine hg.2.imp_right fun h=>⟨?_,h.2⟩
             cases fl with
             |false=>rfl
             |true =>
              have hf:=this rfl
              rw[hf]at h
              cases h.1
           ·cases WZ
          |[],_,WZ=>simp[A7]at WZ
          |_::_::_,_,WZ =>
           simp only[A7]at WZ
           split at WZ<;>cases WZ
         unfold rdM at hm
         split at hm
         ·cases hm
          exact⟨G.hb b,cs,e,by rw[hv],hsz,by simp,hh,ku (fun g hg=>⟨hg.1,hg.2.elim (fun h=>h) fun h=>by cases h.1⟩) key⟩
         ·cases hm
          exact⟨G.hb b,cs,e,by rw[hv],hsz,by simp,hh,ku (fun g hg=>⟨hg.1,hg.2.imp_right fun h=>h.2⟩) key⟩
         ·cases hm
       ·cases hJ
      ·cases hJ
     ·cases hJ
    ·cases hJ
   ·cases hJ
  ·cases hJ
 |own f =>
  dsimp only at hJ
  split at hJ
  ·rename_i hm
   rw[mh]at hm
   have hm':m=2∨m=3:=hm.imp aN aN
   split at hJ
   ·split at hJ
    ·rename_i hck
     rw[aJ]at hck
     split at hJ
     ·rename_i r0 WZ
      cases hJ
      have dd:=(GR hm' (hE (cQ G (aU l)) fun g hg=>by simp[cQ,hg]) h' (aU l) [] rs l us r0 hus (pre:=[]) (seen:=[]) (by simp) (fun id len hm=>by simp at hm) (by rw[gE];exact hck.1) hck.2 WZ).1
      refine⟨cQ G (aU l),fun g j hg=>?_,rfl,?_⟩
      ·unfold cQ at hg
       split at hg
       ·rename_i id hid;exact ae8 g _ hid
       ·cases hg
      ·rcases hm' with rfl|rfl<;>exact dd
     ·cases hJ
    ·cases hJ
   ·rename_i q
    split at hJ
    ·rename_i c hc
     split at hJ
     ·rename_i hck
      simp only[aJ]at hck
      obtain⟨⟨hk1,hk2⟩,hk3⟩:=hck
      split at hJ
      ·rename_i r0 y0 WZ hy0
       cases hJ
       have hu:fk G w st.bx st.bl c u:=by
        have:=h'.sp
        rw[hc,Uk]at this
        exact this
       rw[awF]at hk1
       obtain⟨dd,ab8,h1,h2,h3⟩:=GR hm' (hE (cQ G (aU l++aU [c])) fun g hg=>by simp[cQ,hg]) h' (aU l++aU [c]) (aU [c]) rs l us r0 hus (pre:=[]) (seen:=[]) (by simp) (fun id len hm=>by simp at hm) hk1 hk2 WZ
       obtain⟨aJf,_⟩:=GR hm' (hE (cQ G (aU l++aU [c])) fun g hg=>by simp[cQ,hg]) h' (aU l++aU [c]) [] [q] [c] [u] y0 ⟨hu,trivial⟩ (pre:=aU l) (seen:=ab8) (by simp) (fun id len hm=>h2 id len (by simpa using hm)) (by rw[gE];exact h1) hk3 hy0
       rw[h3]at aJf
       refine⟨cQ G (aU l++aU [c]),fun g j hg=>?_,aJf,?_⟩
       ·unfold cQ at hg
        split at hg
        ·rename_i id hid;exact ae8 g _ hid
        ·cases hg
       ·rcases hm' with rfl|rfl<;>exact dd
      ·cases hJ
     ·cases hJ
    ·cases hJ
   ·cases hJ
  ·cases hJ
 |box =>
  dsimp only at hJ
  generalize hsv:st.sp=sv at hJ
  split at hJ
  ·rename_i b q
   have aJ9:=hsv
   split at hJ
   ·rename_i c hc
    split at hJ
    ·rename_i hck
     simp only[aJ]at hck
     obtain⟨⟨⟨hno,hk1⟩,hk2⟩,hk3⟩:=hck
     split at hJ
     ·rename_i r0 y0 WZ hy0
      cases hJ
      obtain⟨cs,e,hh,bG,hrel⟩:=h'.bx b c hc
      have hg0:G.hb b=g0:=by
       have h1:=h'.sp
       rw[aJ9,Uk,aMe (.inl rfl)]at h1
       have h2:Value.pointer (some ⟨g0,0,none⟩)=.pointer (some ⟨G.hb b,0,none⟩):=h1.2
       injection h2 with h2
       injection h2 with h2
       injection h2 with h2
       exact h2.symm
      subst hg0
      have atY:∀g,G.own g=none→g≠G.hb b:=by
       rintro g hg rfl
       rw[bG]at hg
       cases hg
      by_cases hm:m≤1
      ·
       refine⟨fun g=>if g=G.hb b then some (nOf rs) else none,fun g j hg=>?_,⟨⟨nOf rs,by simp,b9 _⟩,cs,e,hh,?_⟩,?_⟩
       ·dsimp only at hg
        split at hg
        ·rename_i he;exact he▸ae8 _ _ bG
        ·cases hg
       ·refine amh h' hrel hno hy0 fun f e t xs hm g hg=>⟨by simp[atY g hg.1],hg.2.imp_right fun h=>h.2⟩
       ·have hm':m=0∨m=1:=by omega
        have hbl:∀g id,G.own g=some (.bl id)→g≠G.hb b:=by
         rintro g id hg rfl
         rw[bG]at hg
         cases hg
        rcases hm' with rfl|rfl
        ·exact ae7 h' hus hk1 WZ (fun f g _ hg=>⟨by simp[atY g hg.1],hg.2.imp_right fun h=>h.2⟩) (fun g id hg=>⟨by simp[hbl g id hg],.inl (h'.T2 hg)⟩) (.inl rfl)
        ·exact ae7 h' hus hk1 WZ (fun f g hf hg=>⟨by simp[atY g hg.1],hg.2.elim (fun h=>h) fun h=>by rw[hf (by simp)]at h;cases h.1⟩) (fun g id hg=>⟨by simp[hbl g id hg],h'.T2 hg⟩) (.inr rfl)
      ·have hm':m=2∨m=3:=by
        have:=E1 hk3
        omega
       have aOm:xV st rs l=true:=by rcases hm' with rfl|rfl<;>exact hk2
       have dd:=(GR hm' (okE:=fun g=>G.own g=none∧(G.nw g∨(m2 m=false∧G.ok g))) (fun g hg=>⟨hg.1,hg.2⟩) h' (aU l) [] rs l us r0 hus (pre:=[]) (seen:=[]) (by simp) (fun id len hm=>by simp at hm) (by rw[gE];exact hk1) aOm WZ).1
       have awG:∀g,G.own g=none→(if g=G.hb b then some (nOf rs) else cQ G (aU l) g)=none:=by
        intro g hg
        rw[ah (atY g hg)]
        simp[cQ,hg]
       refine⟨fun g=>if g=G.hb b then some (nOf rs) else cQ G (aU l) g,fun g j hg=>?_,⟨⟨nOf rs,by simp,b9 _⟩,cs,e,hh,?_⟩,?_⟩
       ·dsimp only at hg
        split at hg
        ·rename_i he;exact he▸ae8 _ _ bG
        ·unfold cQ at hg
         split at hg
         ·rename_i id hid;exact ae8 g _ hid
         ·cases hg
       ·refine amh h' hrel hno hy0 fun f e t xs hm g hg=>⟨awG g hg.1,hg.2.imp_right fun h=>h.2⟩
       ·have aMg:=pX.awE (cc:=fun g=>if g=G.hb b then some (nOf rs) else cQ G (aU l) g) (al2:=fun g=>(if g=G.hb b then some (nOf rs) else cQ G (aU l) g)=none∧(G.nw g∨(m2 m=false∧G.ok g))) (fun g j hg=>by
         have:g≠G.hb b:=by
          rintro rfl
          simp[cQ,bG]at hg
         simp[this,hg]) (fun g hg=>⟨awG g hg.1,hg.2⟩) dd
        rcases hm' with rfl|rfl<;>exact aMg
     ·cases hJ
    ·cases hJ
   ·cases hJ
  ·cases hJ
 |cur =>
  dsimp only at hJ
  generalize hsv:st.sp=sv at hJ
  split at hJ
  ·rename_i b q
   have aJ9:=hsv
   split at hJ
   ·rename_i c hc
    split at hJ
    ·rename_i hck
     simp only[aJ]at hck
     obtain⟨⟨⟨⟨hno,hna⟩,hk1⟩,hk2⟩,hk3⟩:=hck
     split at hJ
     ·rename_i r0 y0 WZ hy0
      cases hJ
      obtain⟨cs,e,hh,bG,hrel⟩:=h'.bx b c hc
      have hg0:G.hb b=g0:=by
       have h1:=h'.sp
       rw[aJ9,Uk,aMe (.inr rfl)]at h1
       have h2:Value.pointer (some ⟨g0,0,none⟩)=.pointer (some ⟨G.hb b,0,none⟩):=h1.2
       injection h2 with h2
       injection h2 with h2
       injection h2 with h2
       exact h2.symm
      subst hg0
      have atY:∀g,G.own g=none→g≠G.hb b:=by
       rintro g hg rfl
       rw[bG]at hg
       cases hg
      have aJg:∀f e t xs,AC.ro f e t xs∈c→f=true:=fun f e t xs hm=>N9 hna f e t xs hm
      by_cases hm:m≤1
      ·refine⟨fun g=>if g=G.hb b then some (nOf rs) else none,fun g j hg=>?_,⟨⟨nOf rs,by simp,b9 _⟩,cs,e,hh,?_⟩,?_⟩
       ·dsimp only at hg
        split at hg
        ·rename_i he;exact he▸ae8 _ _ bG
        ·cases hg
       ·refine amh h' hrel hno hy0 fun f e t xs hm g hg=>⟨by simp[atY g hg.1],hg.2.elim (fun h=>h) fun h=>by rw[aJg f e t xs hm]at h;cases h.1⟩
       ·have hm':m=0∨m=1:=by omega
        have hbl:∀g id,G.own g=some (.bl id)→g≠G.hb b:=by
         rintro g id hg rfl
         rw[bG]at hg
         cases hg
        rcases hm' with rfl|rfl
        ·exact ae7 h' hus hk1 WZ (fun f g _ hg=>⟨by simp[atY g hg.1],hg.2.imp_right fun h=>h.2⟩) (fun g id hg=>⟨by simp[hbl g id hg],.inl (h'.T2 hg)⟩) (.inl rfl)
        ·exact ae7 h' hus hk1 WZ (fun f g hf hg=>⟨by simp[atY g hg.1],hg.2.elim (fun h=>h) fun h=>by rw[hf (by simp)]at h;cases h.1⟩) (fun g id hg=>⟨by simp[hbl g id hg],h'.T2 hg⟩) (.inr rfl)
      ·have hm':m=2:=by
        have:=E1 hk3
        omega
       subst hm'
       have dd:=(GR (.inl rfl) (okE:=fun g=>G.own g=none∧(G.nw g∨(m2 2=false∧G.ok g))) (fun g hg=>⟨hg.1,hg.2⟩) h' (aU l) [] rs l us r0 hus (pre:=[]) (seen:=[]) (by simp) (fun id len hm=>by simp at hm) (by rw[gE];exact hk1) hk2 WZ).1
       have awG:∀g,G.own g=none→(if g=G.hb b then some (nOf rs) else cQ G (aU l) g)=none:=by
        intro g hg
        rw[ah (atY g hg)]
        simp[cQ,hg]
       refine⟨fun g=>if g=G.hb b then some (nOf rs) else cQ G (aU l) g,fun g j hg=>?_,⟨⟨nOf rs,by simp,b9 _⟩,cs,e,hh,?_⟩,?_⟩
       ·dsimp only at hg
        split at hg
        ·rename_i he;exact he▸ae8 _ _ bG
        ·unfold cQ at hg
         split at hg
         ·rename_i id hid;exact ae8 g _ hid
         ·cases hg
       ·refine amh h' hrel hno hy0 fun f e t xs hm g hg=>⟨awG g hg.1,hg.2.elim (fun h=>h) fun h=>by rw[aJg f e t xs hm]at h;cases h.1⟩
       ·exact pX.awE (cc:=fun g=>if g=G.hb b then some (nOf rs) else cQ G (aU l) g) (al2:=fun g=>(if g=G.hb b then some (nOf rs) else cQ G (aU l) g)=none∧(G.nw g∨(m2 2=false∧G.ok g))) (fun g j hg=>by
         have:g≠G.hb b:=by
          rintro rfl
          simp[cQ,bG]at hg
         simp[this,hg]) (fun g hg=>⟨awG g hg.1,hg.2⟩) dd
     ·cases hJ
    ·cases hJ
   ·cases hJ
  ·cases hJ
theorem Yj {T : Tab} (hC : ∀ f con, C f = some con → tD P T f con) {f : FuncId} {fn : Func} {con : N4} (hf : P.funcs[f]? = some fn) (hn : (fn.name == "runtime.NumGoroutine") = false) (hb : fn.body.isNone = false) (hq : aC9 con)
  (H:Nat→Option Hint) (hrun:∀x r,con.g x=some r→∃N,aBl P C (rQ.Qw N) H fn con.ps con.i con.pm con.rs con.qs con.m x=some r):alZ P T f con:=by
 refine⟨⟨fn,hf,hn,hb⟩,hq,fun x r hg w hTw ok nw own g0 vs u hh hin=>?_⟩
 obtain⟨N,hr⟩:=hrun x r hg
 obtain⟨hc,hr⟩:=aX hr
 simp only[aJ]at hc
 obtain⟨⟨⟨hc1,hc2⟩,hc3⟩,hc4⟩:=hc
 obtain⟨c,ahG⟩:∃c,fn.body=some c:=by
  cases h:fn.body with
  |none=>rw[h]at hb;cases hb
  |some c=>exact⟨c,rfl⟩
 have awD:nO fn=c:=by simp[nO,ahG]
 rw[awD]at hr
 obtain⟨L,B,hS,hL,hB,hrel,Uk,aMh⟩:=aan hh con.i con.ps x vs hc3 hin
 have hlen:vs.length=con.ps.length:=by
  rw[←atX (pm:=con.pm) con.i con.ps x (ir hc2)]
  exact hrel.len.symm
 have aFG:∀g,(∃k,(XF ok nw own L B).own g=some k)→∃j,own g=some j:=by
  rintro g ⟨k,hk⟩
  simp only[XF]at hk
  cases ho:own g with
  |none=>rw[ho]at hk;cases hk
  |some j=>exact⟨j,rfl⟩
 have aKa:∀g,(∃k,(XF ok nw own L B).own g=some k)→nw g:=by
  intro g hg
  obtain⟨j,hj⟩:=aFG g hg
  exact(hh.bG g j hj).1
 let R:fK:={w:=w,ok:=ok,nw:=nw,fr:=fun g=>∃k,(XF ok nw own L B).own g=some k,hnw:=hh.mj,pv:=u,hfr:=aKa}
 have aao:∀g,R.fr g→∃j,own g=some j:=aFG
 have azD:Inv R (XF ok nw own L B) (aeR fn.ntmps con.pm con.i con.ps x) {tmps:=vs.toArray++Array.replicate (fn.ntmps-vs.toArray.size) undef,defers:=[]} w:=by
  unfold aeR
  rw[hL,hB]
  refine ar4 (R:=R) hh rfl rfl rfl rfl (fun g k hk=>Exists.intro k hk) hS rfl ?_ Uk (fun t v hv=>azC hrel hv)
  have:=E1 hc1
  simp[hlen]
  omega
 refine calls_of_wp hf ahG (rW (w0:=R) (fun f con hf=>(hC f con hf).at hTw fun b hb=>by
  obtain⟨j,hj⟩:=aao b hb
  exact(hh.bG b j hj).2.2) H c (azD.ay9 (arC H)) hr fun e G' dL a' w' h' lK=>?_)
 have post:∀e,e=Exit.normal∨e=Exit.ret→(match Qx P dL fn.results.toList with
   |some l=>apZ dL con.pm con.rs con.qs con.m l
   |none=>none)=some r→bodyPost P fn (fun e w'=>∃us,e=.returned (fT us)∧alY con w w' ok nw own g0 u r us∧fE (fun g=>(own g).isSome=true) w w') e a' w':=by
  intro e he lK
  split at lK
  ·rename_i l hl
   obtain⟨us,hus,dd⟩:=Uq (P:=P) h' hl
   have ae8:∀g k,G'.own g=some k→w.heap.size≤g∨(own g).isSome=true:=by
    intro g k hk
    rcases(h'.own g k hk).1 with h1|h1
    ·exact .inl h1
    ·obtain⟨j,hj⟩:=aao g h1
     exact .inr (by rw[hj];rfl)
   have hR:∃us',Ending.returned (fT us)=.returned (fT us')∧alY con w w' ok nw own g0 u r us'∧fE (fun g=>(own g).isSome=true) w w':=by
    refine⟨us,rfl,Ut h' h'.nw h'.rok rfl ae8 (fun hp g k hk=>?_) (fun hp=>?_) hus lK,?_⟩
    ·rcases(h'.own g k hk).1 with h1|h1
     ·exact h1
     ·obtain⟨k',hk'⟩:=h1
      obtain⟨e1,e2⟩:=aMh hp
      subst e1
      subst e2
      simp only[XF,Cj,Nx]at hk'
      split at hk'<;>cases hk'
    ·have:∀(i:Nat) (ps:List (Ty×Bool)) (x:Args ps) (vs:List Value),Uc w ok nw own g0 con.pm i ps x vs u→u=.pointer (some ⟨g0,0,none⟩):=by
      intro i
      induction i with
      |zero =>
       intro ps x vs h
       cases ps with
       |nil=>exact h.elim
       |cons p ps =>
        obtain⟨vs',_,h1,_⟩:=h
        rcases hp with hp|hp<;>rw[hp]at h1<;>exact h1.1
      |succ i ih =>
       intro ps x vs h
       cases ps with
       |nil=>exact h.elim
       |cons p ps =>
        obtain⟨v,vs',_,_,h1⟩:=h
        exact ih ps x.2 vs' h1
     exact this _ _ _ _ hin
    ·exact⟨h'.below.os,h'.below.tape,h'.below.output,h'.below.size,fun k hk hf=>h'.below.block k hk fun hfr=>hf (by
      obtain⟨j,hj⟩:=aao k hfr
      rw[hj];rfl)⟩
   rcases he with rfl|rfl
   ·exact bodyPost_end dd h'.defers hR
   ·exact bodyPost_ret dd h'.defers hR
  ·cases lK
 cases e with
 |norm=>exact post .normal (.inl rfl) lK
 |ret=>exact post .ret (.inr rfl) lK
 |exit j=>cases lK
theorem aHQ {a b:Ty×Bool}{ca cb:CV}{r0:Args [a,b]×Args []}{n:Args [b]}(h:apZ st (.own true) [a,b] [] 2 [ca,cb]=some r0)(hn:A7 st [b] [cb]=some n):r0.1.2.1=n.1:=by
 simp only[apZ,Nat.beq,alA]at h
 split at h
 ·split at h
  ·rename_i r hr
   cases h
   simp only[A7]at hr hn
   split at hr
   ·split at hr
    ·rename_i y hy
     split at hy
     ·rename_i z hz
      rw[hz]at hn
      cases hn
      cases hy
      cases hr
      rfl
     ·cases hy
    ·cases hr
   ·cases hr
  ·cases h
 ·cases h
theorem aHR {b q:Ty×Bool}{cb:CV}{r0:Args [b]×Args [q]}{n:Args [b]}(h:apZ st (.own true) [b] [q] 2 [cb]=some r0)(hn:A7 st [b] [cb]=some n):r0.1.1=n.1:=by
 simp only[apZ,Nat.beq,alA]at h
 split at h
 ·split at h
  ·split at h
   ·rename_i r y hr hy
    cases h
    rw[hn]at hr
    cases hr
    rfl
   ·cases h
  ·cases h
 ·cases h
theorem aqc {T : Tab} (hC : ∀ f con, C f = some con → tD P T f con) {f : FuncId} {fn : Func} {con : Sel} (hf : P.funcs[f]? = some fn) (hn : (fn.name == "runtime.NumGoroutine") = false) (hb : fn.body.isNone = false) (hq : nN con.ps con.i = some con.q)
  (H:Nat→Option Hint) (hrun:∀x r,con.g x=some r→∃N,ap0 P C (rQ.Qw N) H fn con.ps con.i con.a con.b con.q x=some r):al0 P T f con:=by
 refine⟨⟨fn,hf,hn,hb⟩,hq,fun x r hg w hTw ok nw own g0 vs u hh hin=>?_⟩
 obtain⟨N,hr⟩:=hrun x r hg
 obtain⟨hc,hr⟩:=aX hr
 simp only[aJ]at hc
 obtain⟨⟨⟨hc1,hc2⟩,hc3⟩,hc4⟩:=hc
 obtain⟨c,ahG⟩:∃c,fn.body=some c:=by
  cases h:fn.body with
  |none=>rw[h]at hb;cases hb
  |some c=>exact⟨c,rfl⟩
 have awD:nO fn=c:=by simp[nO,ahG]
 rw[awD]at hr
 obtain⟨L,B,hS,hL,hB,hrel,Uk,aMh⟩:=aan hh con.i con.ps x vs hc3 hin
 have hlen:vs.length=con.ps.length:=by
  rw[←atX (pm:=(.own true)) con.i con.ps x (ir hc2)]
  exact hrel.len.symm
 have aFG:∀g,(∃k,(XF ok nw own L B).own g=some k)→∃j,own g=some j:=by
  rintro g ⟨k,hk⟩
  simp only[XF]at hk
  cases ho:own g with
  |none=>rw[ho]at hk;cases hk
  |some j=>exact⟨j,rfl⟩
 have aKa:∀g,(∃k,(XF ok nw own L B).own g=some k)→nw g:=by
  intro g hg
  obtain⟨j,hj⟩:=aFG g hg
  exact(hh.bG g j hj).1
 let R:fK:={w:=w,ok:=ok,nw:=nw,fr:=fun g=>∃k,(XF ok nw own L B).own g=some k,hnw:=hh.mj,pv:=u,hfr:=aKa}
 have aao:∀g,R.fr g→∃j,own g=some j:=aFG
 have azD:Inv R (XF ok nw own L B) (aeR fn.ntmps (.own true) con.i con.ps x) {tmps:=vs.toArray++Array.replicate (fn.ntmps-vs.toArray.size) undef,defers:=[]} w:=by
  unfold aeR
  rw[hL,hB]
  refine ar4 (R:=R) hh rfl rfl rfl rfl (fun g k hk=>Exists.intro k hk) hS rfl ?_ Uk (fun t v hv=>azC hrel hv)
  have:=E1 hc1
  simp[hlen]
  omega
 refine calls_of_wp hf ahG (rW (w0:=R) (fun f con hf=>(hC f con hf).at hTw fun b hb=>by
  obtain⟨j,hj⟩:=aao b hb
  exact(hh.bG b j hj).2.2) H c (azD.ay9 (arC H)) hr fun e G' dL a' w' h' lK=>?_)
 have post:∀e,e=Exit.normal∨e=Exit.ret→ay8 P fn con.a con.b con.q Ex.norm dL=some r→bodyPost P fn (fun e w'=>∃us,e=.returned (fT us)∧aHE con w w' ok nw own g0 u r us∧fE (fun g=>(own g).isSome=true) w w') e a' w':=by
  intro e he lK
  simp only[ay8]at lK
  split at lK
  ·rename_i ca cb hl
   obtain⟨us,hus,dd⟩:=Uq (P:=P) h' hl
   obtain⟨va,vb,rfl⟩:∃va vb,us=[va,vb]:=by
    match us,hus with
    |[va,vb],_=>exact⟨va,vb,rfl⟩
    |[],h=>exact h.elim
    |[_],h=>exact h.2.elim
    |_::_::_::_,h=>exact h.2.2.elim
   have ae8:∀g k,G'.own g=some k→w.heap.size≤g∨(own g).isSome=true:=by
    intro g k hk
    rcases(h'.own g k hk).1 with h1|h1
    ·exact .inl h1
    ·obtain⟨j,hj⟩:=aao g h1
     exact .inr (by rw[hj];rfl)
   have hR:∃us',Ending.returned (fT [va,vb])=.returned (fT us')∧aHE con w w' ok nw own g0 u r us'∧fE (fun g=>(own g).isSome=true) w w':=by
    refine⟨[va,vb],rfl,⟨va,vb,rfl,?_⟩,?_⟩
    ·split at lK
     ·rename_i n hn
      cases hdn:alB con.b.1 n.1 with
      |true =>
       rw[hdn]at lK
       simp only[br]at lK
       split at lK
       ·rename_i r0 WZ
        cases lK
        have hb:r0.1.2.1=n.1:=aHQ WZ hn
        dsimp only
        rw[hb,hdn]
        have:=Ut (con:=aJP con) h' h'.nw h'.rok (g0:=g0) rfl ae8 (fun hp=>by cases hp) (fun hp=>by rcases hp with hp|hp<;>cases hp) hus WZ
        rw[←hb]
        exact this
       ·cases lK
      |false =>
       rw[hdn]at lK
       simp only[br]at lK
       obtain⟨atE,lK⟩:=aX lK
       split at lK
       ·rename_i r0 WZ
        cases lK
        have hb:r0.1.1=n.1:=aHR WZ hn
        dsimp only
        rw[hb,hdn]
        have:=Ut (con:=aLG con) h' h'.nw h'.rok (g0:=g0) rfl ae8 (fun hp=>by cases hp) (fun hp=>by rcases hp with hp|hp<;>cases hp) (l:=[cb]) (us:=[vb]) ⟨hus.2.1,trivial⟩ WZ
        rw[←hb]
        refine⟨this,fun ha=>?_⟩
        unfold aIR at atE
        rw[ha]at atE
        split at atE
        ·rename_i l
         obtain⟨vs,rfl,hrel⟩:=hus.1
         rw[aJ]at atE
         exact⟨vs,rfl,by rw[←hrel.len,aN atE.1],ak3 hrel (ab0 atE.2)⟩
        ·cases atE
        ·contradiction
       ·cases lK
     ·cases lK
    ·exact⟨h'.below.os,h'.below.tape,h'.below.output,h'.below.size,fun k hk hf=>h'.below.block k hk fun hfr=>hf (by
      obtain⟨j,hj⟩:=aao k hfr
      rw[hj];rfl)⟩
   rcases he with rfl|rfl
   ·exact bodyPost_end dd h'.defers hR
   ·exact bodyPost_ret dd h'.defers hR
  ·cases lK
 cases e with
 |norm=>exact post .normal (.inl rfl) lK
 |ret=>exact post .ret (.inr rfl) lK
 |exit j=>cases lK
end
end Go.Am
