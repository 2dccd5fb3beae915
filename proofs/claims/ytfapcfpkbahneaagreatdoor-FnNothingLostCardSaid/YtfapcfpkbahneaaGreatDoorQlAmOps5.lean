/- Lemmas for the claim. No condition. -/
import Derived.Test.YtfapcfpkbahneaaGreatDoorQlAmOps4
set_option linter.all false
namespace Go.Am
open Go.RowKit
def wrC:List Value→Nat→List Value→List Value×(Nat×List Value)
 |[],o,vs=>([],(o,vs))
 |u::c,o+1,vs=>let q:=wrC c o vs;(u::q.1,q.2)
 |u::c,0,[]=>(u::c,(0,[]))
 |u::c,0,v::vs=>let q:=wrC c 0 vs;(v::q.1,q.2)
theorem ab1:∀(c:List Value),wrC c 0 []=(c,(0,[]))
 |[]=>rfl
 |_::_=>rfl
theorem atu:∀(c1 c2:List Value) (o:Nat) (vs:List Value),wrC (c1++c2) o vs=((wrC c1 o vs).1++(wrC c2 (wrC c1 o vs).2.1 (wrC c1 o vs).2.2).1,(wrC c2 (wrC c1 o vs).2.1 (wrC c1 o vs).2.2).2)
 |[],c2,o,vs=>by cases o<;>rfl
 |u::c1,c2,o+1,vs=>by
  simp only[FT,wrC,atu c1 c2 o vs]
 |u::c1,c2,0,[]=>by
  simp only[FT,wrC,ab1]
 |u::c1,c2,0,v::vs=>by
  simp only[FT,wrC,atu c1 c2 0 vs]
theorem atv:∀(c:List Value) (o:Nat) (vs c':List Value),wrC c o vs=(c',(0,[]))→o+vs.length≤c.length∧∀i,c'[i]?=if o≤i∧i<o+vs.length then vs[i-o]? else c[i]?
 |[],o,vs,c',h=>by
  cases o<;>(simp[wrC]at h)
  obtain⟨rfl,rfl⟩:=h
  simp
 |u::c,o+1,vs,c',h=>by
  simp only[wrC]at h
  injection h with h1 h2
  obtain⟨h3,h4⟩:=atv c o vs (wrC c o vs).1 (by rw[←h2])
  subst h1
  refine⟨by simp;omega,fun i=>?_⟩
  cases i with
  |zero=>simp
  |succ i =>
   simp only[List.getElem?_cons_succ,h4 i]
   have e1:(o+1≤i+1∧i+1<o+1+vs.length)↔(o≤i∧i<o+vs.length):=by omega
   simp only[e1,show i+1-(o+1)=i-o by omega]
 |u::c,0,[],c',h=>by
  simp[wrC]at h
  subst h
  refine⟨by simp,fun i=>?_⟩
  rw[ah (by simp)]
 |u::c,0,v::vs,c',h=>by
  simp only[wrC]at h
  injection h with h1 h2
  obtain⟨h3,h4⟩:=atv c 0 vs (wrC c 0 vs).1 (by rw[←h2])
  subst h1
  refine⟨by simp at h3 ⊢;omega,fun i=>?_⟩
  cases i with
  |zero=>simp
  |succ i =>
   simp only[List.getElem?_cons_succ,h4 i]
   by_cases hi:i<vs.length
   ·rw[ak ⟨by omega,by omega⟩,ak ⟨by omega,by simp;omega⟩]
    simp
   ·rw[ah (by omega),ah (by simp;omega)]
theorem azg {cur vs:List Value}{p:Nat}(h:p+vs.length≤cur.length)(q:Nat):(cur.take p++vs++cur.drop (p+vs.length))[q]?=if p≤q∧q<p+vs.length then vs[q-p]? else cur[q]?:=by
 simp only[iK,as3,bQ,N3,ahi]
 have e:min p cur.length=p:=by omega
 rw[e]
 by_cases h1:q<p
 ·rw[ak h1,ak h1,ah (by omega)]
 ·rw[ah h1]
  by_cases h2:q-p<vs.length
  ·rw[ak h2,ak ⟨by omega,by omega⟩]
  ·rw[ah h2,ah (by omega)]
   congr 1
   omega
section
variable {P:Program} {w0:fK} {w:World} {G:Gh} {st:St} {a:Act} {α:Type} {k:St→Option α} {r:α} {K:Act→World→Prop} {Q:Exit→Act→World→Prop} {o:Oper}
theorem aeX {st dL:St}(h:iu st dL):∀(t:Ty) (x:t.D) (s:Nat×List AC),AF dL t x s=AF st t x s
 |.unit,x,s=>rfl
 |.pair t u,x,s=>by
  simp only[AF]
  rw[aeX h t]
  cases AF st t x.1 s with
  |none=>rfl
  |some y=>dsimp only;rw[aeX h u]
 |.int k,x,(0,[])=>rfl
 |.int k,x,(0,c::l)=>by simp only[AF];rw[uJ h]
 |.int k,x,(o+1,l)=>rfl
 |.bool,x,(0,[])=>rfl
 |.bool,x,(0,c::l)=>by simp only[AF];rw[uJ h]
 |.bool,x,(o+1,l)=>rfl
 |.str,x,(0,[])=>rfl
 |.str,x,(0,c::l)=>by simp only[AF];rw[uJ h]
 |.str,x,(o+1,l)=>rfl
 |.sl _ _,x,(0,[])=>rfl
 |.sl _ _,x,(0,c::l)=>by simp only[AF];rw[uJ h]
 |.sl _ _,x,(o+1,l)=>rfl
theorem IX {t:Ty}{ok:Nat→Prop}{x:t.D}{c:List Value}(h:Rd w ok t x c)(hn:t.n=1):∃u,c=[u]:=by
 have:=h.len
 rw[hn]at this
 cases c with
 |nil=>cases this
 |cons u c =>
  cases c with
  |nil=>exact⟨u,rfl⟩
  |cons _ _=>simp at this
theorem WT {ok:Nat→Prop}{bx:List (Nat×List AC)}{bl:List (Nat×Option gq)}{t:Ty}(hn:t.n=1){c:AC}{l:List AC}{vs:List Value}{cs:List Value}{x:t.D}{y:t.D}{rest:List AC}
  (hc:∀t c' v xs,c'∈c::l→bN G w bx bl c' v→df st t c'=some xs→∀e,Rd w ok (.sl e t) xs [v]) (hx:Rd w ok t x cs) (hr:cR (bN G w bx bl) (c::l) vs) (hi:im st t [c]=some (y,rest)) :
  ∃c' vs',Rd w ok t y c'∧cR (bN G w bx bl) l vs'∧wrC cs 0 vs=(c',(0,vs')):=by
 cases vs with
 |nil=>exact hr.elim
 |cons v vs =>
  obtain⟨u,rfl⟩:=IX hx hn
  obtain⟨vs1,vs2,he,kc,_,_⟩:=N8 (l:=[c]) (vs:=[v]) (fun t c' v' xs hm=>hc t c' v' xs (by simp at hm;simp[hm])) ⟨hr.1,trivial⟩ hi
  obtain⟨z,rfl⟩:=IX kc hn
  have:z=v:=by simp at he;exact he.1.symm
  subst this
  exact⟨[z],vs,kc,hr.2,by cases vs<;>rfl⟩
theorem atw {ok:Nat→Prop}{bx:List (Nat×List AC)}{bl:List (Nat×Option gq)}:∀{t:Ty} {x:t.D} {cs:List Value} {o:Nat} {l:List AC} {vs:List Value} {y:t.D} {o':Nat} {l':List AC},
  (∀t c v xs,c∈l→bN G w bx bl c v→df st t c=some xs→∀e,Rd w ok (.sl e t) xs [v])→Rd w ok t x cs→cR (bN G w bx bl) l vs→AF st t x (o,l)=some (y,(o',l')) →
  ∃c' vs',Rd w ok t y c'∧cR (bN G w bx bl) l' vs'∧wrC cs o vs=(c',(o',vs'))∧∀c∈l',c∈l
 |.unit,x,cs,o,l,vs,y,o',l',hc,hx,hr,hs=>by
  simp only[AF]at hs
  cases hs
  rw[show cs=[] from hx]
  exact⟨[],vs,rfl,hr,by cases o<;>rfl,fun _ h=>h⟩
 |.pair t u,x,cs,o,l,vs,y,o',l',hc,hx,hr,hs=>by
  obtain⟨c1,c2,rfl,hx1,hx2⟩:=hx
  simp only[AF]at hs
  split at hs
  ·rename_i y1 s1 h1
   obtain⟨o1,l1⟩:=s1
   split at hs
   ·rename_i y2 s2 h2
    obtain⟨o2,l2⟩:=s2
    cases hs
    obtain⟨c1',vs1,hr1,hr2,hw1,hm1⟩:=atw hc hx1 hr h1
    obtain⟨c2',vs2,hr3,hr4,hw2,hm2⟩:=atw (fun t c v xs hm=>hc t c v xs (hm1 c hm)) hx2 hr2 h2
    refine⟨c1'++c2',vs2,⟨c1',c2',rfl,hr1,hr3⟩,hr4,?_,fun c hm=>hm1 c (hm2 c hm)⟩
    rw[atu,hw1]
    dsimp only
    rw[hw2]
   ·cases hs
  ·cases hs
 |.int k,x,cs,0,[],vs,y,o',l',hc,hx,hr,hs=>by
  simp only[AF]at hs
  cases hs
  cases vs with
  |nil=>exact⟨cs,[],hx,trivial,ab1 cs,fun _ h=>h⟩
  |cons _ _=>exact hr.elim
 |.bool,x,cs,0,[],vs,y,o',l',hc,hx,hr,hs=>by
  simp only[AF]at hs
  cases hs
  cases vs with
  |nil=>exact⟨cs,[],hx,trivial,ab1 cs,fun _ h=>h⟩
  |cons _ _=>exact hr.elim
 |.str,x,cs,0,[],vs,y,o',l',hc,hx,hr,hs=>by
  simp only[AF]at hs
  cases hs
  cases vs with
  |nil=>exact⟨cs,[],hx,trivial,ab1 cs,fun _ h=>h⟩
  |cons _ _=>exact hr.elim
 |.sl e t,x,cs,0,[],vs,y,o',l',hc,hx,hr,hs=>by
  simp only[AF]at hs
  cases hs
  cases vs with
  |nil=>exact⟨cs,[],hx,trivial,ab1 cs,fun _ h=>h⟩
  |cons _ _=>exact hr.elim
 |.int k,x,cs,0,c::l,vs,y,o',l',hc,hx,hr,hs=>by
  simp only[AF]at hs
  split at hs
  ·rename_i n rest hi
   cases hs
   obtain⟨c',vs',h1,h2,h3⟩:=WT rfl hc hx hr hi
   exact⟨c',vs',h1,h2,h3,fun _ h=>by simp[h]⟩
  ·cases hs
 |.bool,x,cs,0,c::l,vs,y,o',l',hc,hx,hr,hs=>by
  simp only[AF]at hs
  split at hs
  ·rename_i n rest hi
   cases hs
   obtain⟨c',vs',h1,h2,h3⟩:=WT rfl hc hx hr hi
   exact⟨c',vs',h1,h2,h3,fun _ h=>by simp[h]⟩
  ·cases hs
 |.str,x,cs,0,c::l,vs,y,o',l',hc,hx,hr,hs=>by
  simp only[AF]at hs
  split at hs
  ·rename_i n rest hi
   cases hs
   obtain⟨c',vs',h1,h2,h3⟩:=WT rfl hc hx hr hi
   exact⟨c',vs',h1,h2,h3,fun _ h=>by simp[h]⟩
  ·cases hs
 |.sl e t,x,cs,0,c::l,vs,y,o',l',hc,hx,hr,hs=>by
  simp only[AF]at hs
  split at hs
  ·rename_i n rest hi
   cases hs
   obtain⟨c',vs',h1,h2,h3⟩:=WT rfl hc hx hr hi
   exact⟨c',vs',h1,h2,h3,fun _ h=>by simp[h]⟩
  ·cases hs
 |.int k,x,cs,o+1,l,vs,y,o',l',hc,hx,hr,hs=>by
  simp only[AF]at hs
  cases hs
  obtain⟨u,rfl⟩:=IX hx rfl
  exact⟨[u],vs,hx,hr,by cases o<;>rfl,fun _ h=>h⟩
 |.bool,x,cs,o+1,l,vs,y,o',l',hc,hx,hr,hs=>by
  simp only[AF]at hs
  cases hs
  obtain⟨u,rfl⟩:=IX hx rfl
  exact⟨[u],vs,hx,hr,by cases o<;>rfl,fun _ h=>h⟩
 |.str,x,cs,o+1,l,vs,y,o',l',hc,hx,hr,hs=>by
  simp only[AF]at hs
  cases hs
  obtain⟨u,rfl⟩:=IX hx rfl
  exact⟨[u],vs,hx,hr,by cases o<;>rfl,fun _ h=>h⟩
 |.sl e t,x,cs,o+1,l,vs,y,o',l',hc,hx,hr,hs=>by
  simp only[AF]at hs
  cases hs
  obtain⟨u,rfl⟩:=IX hx rfl
  exact⟨[u],vs,hx,hr,by cases o<;>rfl,fun _ h=>h⟩
theorem N9:∀{l:List AC},cW l=true→∀f e t xs,AC.ro f e t xs∈l→f=true
 |[],_,f,e,t,xs,hm=>by simp at hm
 |c::l,h,f,e,t,xs,hm=>by
  have hl:cW l=true∧∀f e t xs,c=.ro f e t xs→f=true:=by
   cases c with
   |ro f e t xs =>
    simp only[cW,aJ]at h
    exact⟨h.2,fun f' e' t' xs' e=>by cases e;exact h.1⟩
   |_=>exact⟨h,fun f e t xs e'=>by cases e'⟩
  rcases gU.1 hm with hm|hm
  ·exact hl.2 f e t xs hm.symm
  ·exact N9 hl.1 f e t xs hm
theorem alU:∀{l:List AC},pQ st l=true→∀id len,AC.own id len∈l→∃b,st.rP id=some b∧b.f=true
 |[],_,id,len,hm=>by simp at hm
 |c::l,h,id,len,hm=>by
  have hl:pQ st l=true∧∀j m,c=.own j m→∃b,st.rP j=some b∧b.f=true:=by
   cases c with
   |own j m =>
    simp only[pQ,aJ]at h
    refine⟨h.2,fun j' m' e=>?_⟩
    cases e
    cases hb:st.rP j with
    |none=>rw[hb]at h;simp at h
    |some b=>rw[hb]at h;exact⟨b,rfl,h.1⟩
   |_=>exact⟨h,fun j m e=>by cases e⟩
  rcases gU.1 hm with hm|hm
  ·exact hl.2 id len hm.symm
  ·exact alU hl.1 id len hm
theorem ab2 {id:Nat}:∀(l:List AC) (st:St),ay0 id l=true→look (st.freeze l).bl id=look st.bl id
 |[],st,_=>rfl
 |c::l,st,h=>by
  show look ((st.ey c).freeze l).bl id=_
  have hl:ay0 id l=true∧∀j m,c=.own j m→j≠id:=by
   cases c with
   |own j m =>
    simp only[ay0,aJ]at h
    refine⟨h.2,fun j' m' e=>?_⟩
    cases e
    exact bI h.1
   |_=>exact⟨h,fun j m e=>by cases e⟩
  rw[ab2 l _ hl.1]
  cases c with
  |own j m =>
   cases hb:st.rP j with
   |none=>rw[QD hb]
   |some b =>
    rw[nP hb]
    have:=hl.2 j m rfl
    simp[aw,this]
  |_=>rfl
theorem Oa {G':Gh}{l:List AC}(h':Inv w0 G' (st.freeze l) a w)(ho:pQ st l=true){nf:Bool}(hn:nf=true→cW l=true){bx:List (Nat×List AC)} :
  ∀t c v xs,c∈l→bN G' w (st.freeze l).bx (st.freeze l).bl c v→df (st.freeze l) t c=some xs→∀e,Rd w (RO G' nf) (.sl e t) xs [v]:=by
 intro t c v xs hm hr hd e
 have DQ:∀f,(nf=true→f=true)→∀g,RO G' f g→RO G' nf g:=fun f hf g hg=>hg.DQ hf
 refine kt h' hr hd (fun id len b hc hl=>?_) (fun f e u ys hc=>?_) e
 ·subst hc
  obtain⟨b0,hb0,hf⟩:=alU ho id len hm
  have:=IW l st id len b0 hm (fm hb0)
  rw[hl]at this
  cases this
  exact⟨DQ b0.f fun _=>hf,fun hw=>by cases hw⟩
 ·subst hc
  exact DQ f fun hnf=>N9 (hn hnf) f e u ys hm
theorem ai4 (h:Inv w0 G st a w)(t:TypeId)(x y:Operand)(ho:o.op=.store t x y)(hk:(st.eT y).kn=true)(hkn:ahn (st.eT y).cells=true)(hs:P.cellsOf t=(st.eT y).cells.length)(hi:(P.info? t).isSome=true)
  {id:Nat} {i:Int} {off:Nat} (hx:st.ac x=.KS id i off) {b:gq} (hb:st.rP id=some b) (hw:b.w=true) (hon:pQ st (st.eT y).cells=true) (hni:ay0 id (st.eT y).cells=true)
  {z:b.t.D} (hz:AF st b.t (b.xs.getD i.toNat b.t.aG) (off,(st.eT y).cells)=some (z,(0,[])))
  (hr:({(st.freeze (st.eT y).cells) with bl:=(id,some {b with xs:=b.xs.set i.toNat z,f:=b.f&&cW (st.eT y).cells})::(st.freeze (st.eT y).cells).bl}:St).pk o.dst (.TO []) k=some r) (hK:rT w0 k r K):o.wp P a w K Q:=by
 have hl0:=fm hb
 have aE5:=(h.eT y).cells hk
 have aLu:=h.ac x
 rw[hx]at aLu
 obtain⟨cs,hcs⟩:∃cs,(st.eT y).cells=cs:=⟨_,rfl⟩
 rw[hcs]at hr hz hon hni hs hkn aE5
 obtain⟨G',h',hxt,hst,hsd⟩:=Inv.freeze cs h
 have hcell:cR (bN G' w (st.freeze cs).bx (st.freeze cs).bl) cs (a.eval y).cells.toList:=aE5.imp fun _ _=>bN.mono hxt hst
 have hxr:=bN.mono hxt hst (c:=.KS id i off) aLu
 have hl:look (st.freeze cs).bl id=some (some b):=(ab2 cs st hni).trans hl0
 obtain⟨_,_,hi0,g,q,n,cap,hv,hin,hp⟩:=hxr
 have hp:=hp b hl
 have hbo:=h'.bl id b hl
 obtain⟨rows,bG,hgo,E2⟩:=hbo.wr hw
 obtain⟨hlen,aE6⟩:=bG
 rcases aE6 with ⟨he,_⟩|⟨g',azb,cur,he,DS,hh,hnc,hcm,hsz,htk⟩
 ·rw[hv]at he;cases he
 ·rw[hv]at he
  injection he with e1 e2 e3
  injection e1 with e1
  injection e1 with e4 e5 _
  subst e4 e5 e2 e3
  have aLw:=hgo g (by rw[hv];rfl)
  have hj:i.toNat<b.xs.length:=by omega
  obtain⟨c,kc,hcc⟩:=E2 i.toNat _ (A9 hj b.t.aG)
  have hf':∀f:Bool,((b.f&&cW cs)=true→f=true)→∀g,RO G' f g→RO G' (b.f&&cW cs) g:=fun f hf g hg=>hg.DQ hf
  have hbf:∀g,RO G' b.f g→RO G' (b.f&&cW cs) g:=hf' b.f fun h=>by simp at h;exact h.1
  have KR:AF (st.freeze cs) b.t (b.xs.getD i.toNat b.t.aG) (off,cs)=some (z,(0,[])):=by rw[aeX hsd];exact hz
  obtain⟨c',vs',hrz,hv0,hwr,_⟩:=atw (ok:=RO G' (b.f&&cW cs)) (Oa (bx:=st.bx) h' hon fun h=>by simp at h;exact h.2) (jo hbf kc) hcell KR
  have hvs:vs'=[]:=by
   cases vs' with
   |nil=>rfl
   |cons _ _=>exact hv0.elim
  subst hvs
  obtain⟨azh,awe⟩:=atv c off _ c' hwr
  have aO8:=kc.len
  have Z6:=ak3 hcell (ab0 hkn)
  have aE1:=hcell.len
  have hcl:cur.size=cap*b.t.n:=hsz
  have gI:(i.toNat+1)*b.t.n≤b.xs.length*b.t.n:=FR _ (by omega)
  have aIX:b.xs.length*b.t.n≤cap*b.t.n:=FR _ hnc
  rw[KX,Qv]at gI
  obtain⟨vs,hvs⟩:∃vs,(a.eval y).cells.toList=vs:=⟨_,rfl⟩
  rw[hvs]at hcell aE1 Z6 hwr awe azh
  have hle:i.toNat*b.t.n+off+vs.length≤cur.toList.length:=by simp;omega
  have hrun:=abZ (P:=P) (t:=t) (o:=0+(i.toNat*b.t.n+off)) (v:=a.eval y) (by rw[hs,hvs];exact aE1) hi hh (by rw[hvs];simp at hle ⊢;omega) (by rw[hvs];exact Z6)
  rw[hvs,w8]at hrun
  have arH:∀q:Nat,(cur.toList.take (i.toNat*b.t.n+off)++vs++cur.toList.drop (i.toNat*b.t.n+off+vs.length))[q]?=if i.toNat*b.t.n+off≤q∧q<i.toNat*b.t.n+off+vs.length then vs[q-(i.toNat*b.t.n+off)]? else cur.toList[q]?:=fun q=>azg hle q
  obtain⟨cur',hcur⟩:∃cur',cur.toList.take (i.toNat*b.t.n+off)++vs++cur.toList.drop (i.toNat*b.t.n+off+vs.length)=cur':=⟨_,rfl⟩
  rw[hcur]at hrun arH
  have aBx:cur'.length=cur.size:=by
   rw[←hcur]
   simp
   omega
  have aE7:=Z7 (w:=w) (cs:=cur'.toArray) aLw (by simp)
  have aHA:DR G' (w.setRow g cur'.toArray) id {b with xs:=b.xs.set i.toNat z,f:=b.f&&cW cs}:=by
   refine⟨fun _=>⟨cur'.take (b.xs.length*b.t.n),⟨?_,.inr ⟨g,cap,cur'.toArray,?_,DS,setRow_heap w g cur _ _ _ hh,by simpa using hnc,hcm,by simp[aBx,hsz],by simp⟩⟩,hgo,?_⟩,fun hw'=>?_,hbo.pos⟩
   ·simp[aBx]
    omega
   ·simp[hv]
   ·intro jj xx hjj
    dsimp only at hjj
    have hjl:jj<b.xs.length:=by
     rcases abM jj b.xs.length with h|h
     ·exact h
     ·simp[List.getElem?_eq_none (show(b.xs.set i.toNat z).length≤jj by simpa using h)]at hjj
    have hrj:(jj+1)*b.t.n≤b.xs.length*b.t.n:=FR _ (by omega)
    rw[KX,Qv]at hrj
    by_cases Yb:jj=i.toNat
    ·subst Yb
     have:xx=z:=by
      rw[List.getElem?_set]at hjj
      simp[hjl]at hjj
      exact hjj.symm
     rw[this]
     refine⟨c',aE7.rd hrz,fun ii u hu=>?_⟩
     have hil:ii<b.t.n:=by
      have:=hrz.len
      have h2:=(xQ.1 hu).1
      omega
     rw[awe]at hu
     show(cur'.take (b.xs.length*b.t.n))[i.toNat*b.t.n+ii]?=some u
     rw[N3,ak (by omega),arH]
     by_cases aLx:off≤ii∧ii<off+vs.length
     ·rw[ak aLx]at hu
      rw[ak (by omega),show i.toNat*b.t.n+ii-(i.toNat*b.t.n+off)=ii-off by omega]
      exact hu
     ·rw[ah aLx]at hu
      rw[ah (by omega)]
      have:=hcc ii u hu
      rw[←htk,N3,ak (by omega)]at this
      exact this
    ·have hxx:b.xs[jj]?=some xx:=by
      rw[List.getElem?_set]at hjj
      simpa [fun e=>Yb (Eq.symm e),show ¬i.toNat=jj from fun e=>Yb e.symm]using hjj
     obtain⟨c2,hr2,hc2⟩:=E2 jj xx hxx
     refine⟨c2,jo hbf (aE7.rd hr2),fun ii u hu=>?_⟩
     have hil:ii<b.t.n:=by
      have:=hr2.len
      have h2:=(xQ.1 hu).1
      omega
     show(cur'.take (b.xs.length*b.t.n))[jj*b.t.n+ii]?=some u
     have aE9:¬(i.toNat*b.t.n+off≤jj*b.t.n+ii∧jj*b.t.n+ii<i.toNat*b.t.n+off+vs.length):=by
      rcases Nat.lt_or_gt_of_ne Yb with hlt|hgt
      ·have:(jj+1)*b.t.n≤i.toNat*b.t.n:=FR _ (by omega)
       rw[KX,Qv]at this
       omega
      ·have:(i.toNat+1)*b.t.n≤jj*b.t.n:=FR _ (by omega)
       rw[KX,Qv]at this
       omega
     rw[N3,ak (by omega),arH,ah aE9]
     have:=hc2 ii u hu
     rw[←htk,N3,ak (by omega)]at this
     exact this
   ·rw[show b.w=false from hw']at hw
    cases hw
  have hinv:=h'.aHu id b hl hw g (by rw[hv];rfl) cur'.toArray {b with xs:=b.xs.set i.toNat z,f:=b.f&&cW cs} rfl aHA
  refine aEV (w':=w.setRow g cur'.toArray) ?_ (Cg hinv (v:=.TO []) (u:=undef) ⟨#[],rfl,trivial⟩ hr hK)
  unfold execOp
  rw[ho]
  dsimp only
  rw[hp]
  simp only[Instr.storeAt,Instr.sureAddr,Sem.run_bind,Sem.run_pure,Result.andThen_ok,w8,hrun]
end
end Go.Am
