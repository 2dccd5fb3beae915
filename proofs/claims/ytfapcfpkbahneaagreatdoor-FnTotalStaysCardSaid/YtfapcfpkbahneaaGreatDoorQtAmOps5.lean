/- Lemmas for the claim. No condition. -/
import Derived.Test.YtfapcfpkbahneaaGreatDoorQtAmOps4
set_option linter.all false
namespace Go.Am
open Go.RowKit
def wrC:List Value->Nat->List Value->List Value×(Nat×List Value)
 |[],o,vs=>([],(o,vs))
 |u::c,o+1,vs=>let q:=wrC c o vs;(u::q.1,q.2)
 |u::c,0,[]=>(u::c,(0,[]))
 |u::c,0,v::vs=>let q:=wrC c 0 vs;(v::q.1,q.2)
theorem acD:∀(c:List Value),wrC c 0 []=(c,(0,[]))
 |[]=>rfl
 |_::_=>rfl
theorem at2:∀(c1 c2:List Value) (o:Nat) (vs:List Value),wrC (c1++c2) o vs=((wrC c1 o vs).1++(wrC c2 (wrC c1 o vs).2.1 (wrC c1 o vs).2.2).1,(wrC c2 (wrC c1 o vs).2.1 (wrC c1 o vs).2.2).2)
 |[],c2,o,vs=>by cases o<;>rfl
 |u::c1,c2,o+1,vs=>by simp only[F5,wrC,at2 c1 c2 o vs]
 |u::c1,c2,0,[]=>by simp only[F5,wrC,acD]
 |u::c1,c2,0,v::vs=>by simp only[F5,wrC,at2 c1 c2 0 vs]
theorem at3:∀(c:List Value) (o:Nat) (vs c':List Value),wrC c o vs=(c',(0,[]))->o+vs.length<=c.length/\∀i,c'[i]?=if o<=i/\i<o+vs.length then vs[i-o]? else c[i]?
 |[],o,vs,c',h=>by
  cases o<;>(simp[wrC]at h)
  obtain⟨rfl,rfl⟩:=h;simp
 |u::c,o+1,vs,c',h=>by
  simp only[wrC]at h;injection h with h1 h2
  obtain⟨h3,h4⟩:=at3 c o vs (wrC c o vs).1 (by rw[<-h2]);subst h1;refine⟨by simp;omega,fun i=>?_⟩;cases i with
  |zero=>simp
  |succ i =>
   simp only[azr,h4 i];have e1:(o+1<=i+1/\i+1<o+1+vs.length)↔(o<=i/\i<o+vs.length):=by omega
   simp only[e1,show i+1-(o+1)=i-o by omega]
 |u::c,0,[],c',h=>by simp[wrC]at h;subst h;refine⟨by simp,fun i=>?_⟩;rw[ah (by simp)]
 |u::c,0,v::vs,c',h=>by
  simp only[wrC]at h;injection h with h1 h2
  obtain⟨h3,h4⟩:=at3 c 0 vs (wrC c 0 vs).1 (by rw[<-h2]);subst h1;refine⟨by simp at h3 ⊢;omega,fun i=>?_⟩;cases i with
  |zero=>simp
  |succ i =>
   simp only[azr,h4 i];by_cases hi:i<vs.length
   ·rw[ak ⟨by omega,by omega⟩,ak ⟨by omega,by simp;omega⟩];simp
   ·rw[ah (by omega),ah (by simp;omega)]
theorem azO {cur vs:List Value}{p:Nat}(h:p+vs.length<=cur.length)(q:Nat):(cur.take p++vs++cur.drop (p+vs.length))[q]?=if p<=q/\q<p+vs.length then vs[q-p]? else cur[q]?:=by
 simp only[jZ,atA,bQ,OC,ahT];have e:min p cur.length=p:=by omega
 rw[e];by_cases h1:q<p
 ·rw[ak h1,ak h1,ah (by omega)]
 ·rw[ah h1];by_cases h2:q-p<vs.length
  ·rw[ak h2,ak ⟨by omega,by omega⟩]
  ·rw[ah h2,ah (by omega)]
   congr 1
   omega
section
variable {P:Program} {w0:fJ} {w:World} {G:Gh} {st:St} {a:Act} {α:Type} {k:St->Option α} {r:α} {K:Act->World->Prop} {Q:Exit->Act->World->Prop} {o:Oper}
theorem afw {st dK:St}(h:iq st dK):∀(t:Ty) (x:t.D) (s:Nat×List AC),AP dK t x s=AP st t x s
 |.unit,x,s=>rfl
 |.pair t u,x,s=>by
  simp only[AP];rw[afw h t];cases AP st t x.1 s with
  |none=>rfl
  |some y=>dsimp only;rw[afw h u]
 |.int k,x,(0,[])=>rfl
 |.int k,x,(0,c::l)=>by simp only[AP];rw[uS h]
 |.int k,x,(o+1,l)=>rfl
 |.bool,x,(0,[])=>rfl
 |.bool,x,(0,c::l)=>by simp only[AP];rw[uS h]
 |.bool,x,(o+1,l)=>rfl
 |.str,x,(0,[])=>rfl
 |.str,x,(0,c::l)=>by simp only[AP];rw[uS h]
 |.str,x,(o+1,l)=>rfl
 |.sl _ _,x,(0,[])=>rfl
 |.sl _ _,x,(0,c::l)=>by simp only[AP];rw[uS h]
 |.sl _ _,x,(o+1,l)=>rfl
theorem Je {t:Ty}{ok:Nat->Prop}{x:t.D}{c:List Value}(h:Rd w ok t x c)(hn:t.n=1):∃u,c=[u]:=by
 have:=h.len;rw[hn]at this;cases c with
 |nil=>cases this
 |cons u c =>
  cases c with
  |nil=>exact⟨u,rfl⟩
  |cons _ _=>simp at this
theorem Xs {ok:Nat->Prop}{bx:List (Nat×List AC)}{bl:List (Nat×Option gp)}{t:Ty}(hn:t.n=1){c:AC}{l:List AC}{vs:List Value}{cs:List Value}{x:t.D}{y:t.D}{rest:List AC}
  (hc:∀t c' v xs,c'∈c::l->bN G w bx bl c' v->de st t c'=some xs->∀e,Rd w ok (.sl e t) xs [v]) (hx:Rd w ok t x cs) (hr:cT (bN G w bx bl) (c::l) vs) (hi:im st t [c]=some (y,rest)) :
  ∃c' vs',Rd w ok t y c'/\cT (bN G w bx bl) l vs'/\wrC cs 0 vs=(c',(0,vs')):=by
 cases vs with
 |nil=>exact hr.elim
 |cons v vs =>
  obtain⟨u,rfl⟩:=Je hx hn;obtain⟨vs1,vs2,he,kt,_,_⟩:=OI (l:=[c]) (vs:=[v]) (fun t c' v' xs hm=>hc t c' v' xs (by simp at hm;simp[hm])) ⟨hr.1,trivial⟩ hi;obtain⟨z,rfl⟩:=Je kt hn;have:z=v:=by simp at he;exact he.1.symm
  subst this;exact⟨[z],vs,kt,hr.2,by cases vs<;>rfl⟩
theorem at4 {ok:Nat->Prop}{bx:List (Nat×List AC)}{bl:List (Nat×Option gp)}:∀{t:Ty} {x:t.D} {cs:List Value} {o:Nat} {l:List AC} {vs:List Value} {y:t.D} {o':Nat} {l':List AC},
  (∀t c v xs,c∈l->bN G w bx bl c v->de st t c=some xs->∀e,Rd w ok (.sl e t) xs [v])->Rd w ok t x cs->cT (bN G w bx bl) l vs->AP st t x (o,l)=some (y,(o',l')) ->
  ∃c' vs',Rd w ok t y c'/\cT (bN G w bx bl) l' vs'/\wrC cs o vs=(c',(o',vs'))/\∀c∈l',c∈l
 |.unit,x,cs,o,l,vs,y,o',l',hc,hx,hr,hs=>by simp only[AP]at hs;cases hs;rw[show cs=[] from hx];exact⟨[],vs,rfl,hr,by cases o<;>rfl,fun _ h=>h⟩
 |.pair t u,x,cs,o,l,vs,y,o',l',hc,hx,hr,hs=>by
  obtain⟨c1,c2,rfl,hx1,hx2⟩:=hx;simp only[AP]at hs;split at hs
  ·rename_i y1 s1 h1;obtain⟨o1,l1⟩:=s1;split at hs
   ·rename_i y2 s2 h2;obtain⟨o2,l2⟩:=s2;cases hs;obtain⟨c1',vs1,hr1,hr2,hw1,hm1⟩:=at4 hc hx1 hr h1;obtain⟨c2',vs2,hr3,hr4,hw2,hm2⟩:=at4 (fun t c v xs hm=>hc t c v xs (hm1 c hm)) hx2 hr2 h2;refine⟨c1'++c2',vs2,⟨c1',c2',rfl,hr1,hr3⟩,hr4,?_,fun c hm=>hm1 c (hm2 c hm)⟩;rw[at2,hw1];dsimp only;rw[hw2]
   ·cases hs
  ·cases hs
 |.int k,x,cs,0,[],vs,y,o',l',hc,hx,hr,hs=>by
  simp only[AP]at hs;cases hs;cases vs with
  |nil=>exact⟨cs,[],hx,trivial,acD cs,fun _ h=>h⟩
  |cons _ _=>exact hr.elim
 |.bool,x,cs,0,[],vs,y,o',l',hc,hx,hr,hs=>by
  simp only[AP]at hs;cases hs;cases vs with
  |nil=>exact⟨cs,[],hx,trivial,acD cs,fun _ h=>h⟩
  |cons _ _=>exact hr.elim
 |.str,x,cs,0,[],vs,y,o',l',hc,hx,hr,hs=>by
  simp only[AP]at hs;cases hs;cases vs with
  |nil=>exact⟨cs,[],hx,trivial,acD cs,fun _ h=>h⟩
  |cons _ _=>exact hr.elim
 |.sl e t,x,cs,0,[],vs,y,o',l',hc,hx,hr,hs=>by
  simp only[AP]at hs;cases hs;cases vs with
  |nil=>exact⟨cs,[],hx,trivial,acD cs,fun _ h=>h⟩
  |cons _ _=>exact hr.elim
 |.int k,x,cs,0,c::l,vs,y,o',l',hc,hx,hr,hs=>by
  simp only[AP]at hs;split at hs
  ·rename_i n rest hi;cases hs;obtain⟨c',vs',h1,h2,h3⟩:=Xs rfl hc hx hr hi;exact⟨c',vs',h1,h2,h3,fun _ h=>by simp[h]⟩
  ·cases hs
 |.bool,x,cs,0,c::l,vs,y,o',l',hc,hx,hr,hs=>by
  simp only[AP]at hs;split at hs
  ·rename_i n rest hi;cases hs;obtain⟨c',vs',h1,h2,h3⟩:=Xs rfl hc hx hr hi;exact⟨c',vs',h1,h2,h3,fun _ h=>by simp[h]⟩
  ·cases hs
 |.str,x,cs,0,c::l,vs,y,o',l',hc,hx,hr,hs=>by
  simp only[AP]at hs;split at hs
  ·rename_i n rest hi;cases hs;obtain⟨c',vs',h1,h2,h3⟩:=Xs rfl hc hx hr hi;exact⟨c',vs',h1,h2,h3,fun _ h=>by simp[h]⟩
  ·cases hs
 |.sl e t,x,cs,0,c::l,vs,y,o',l',hc,hx,hr,hs=>by
  simp only[AP]at hs;split at hs
  ·rename_i n rest hi;cases hs;obtain⟨c',vs',h1,h2,h3⟩:=Xs rfl hc hx hr hi;exact⟨c',vs',h1,h2,h3,fun _ h=>by simp[h]⟩
  ·cases hs
 |.int k,x,cs,o+1,l,vs,y,o',l',hc,hx,hr,hs=>by simp only[AP]at hs;cases hs;obtain⟨u,rfl⟩:=Je hx rfl;exact⟨[u],vs,hx,hr,by cases o<;>rfl,fun _ h=>h⟩
 |.bool,x,cs,o+1,l,vs,y,o',l',hc,hx,hr,hs=>by simp only[AP]at hs;cases hs;obtain⟨u,rfl⟩:=Je hx rfl;exact⟨[u],vs,hx,hr,by cases o<;>rfl,fun _ h=>h⟩
 |.str,x,cs,o+1,l,vs,y,o',l',hc,hx,hr,hs=>by simp only[AP]at hs;cases hs;obtain⟨u,rfl⟩:=Je hx rfl;exact⟨[u],vs,hx,hr,by cases o<;>rfl,fun _ h=>h⟩
 |.sl e t,x,cs,o+1,l,vs,y,o',l',hc,hx,hr,hs=>by simp only[AP]at hs;cases hs;obtain⟨u,rfl⟩:=Je hx rfl;exact⟨[u],vs,hx,hr,by cases o<;>rfl,fun _ h=>h⟩
theorem OJ:∀{l:List AC},cV l=true->∀f e t xs,AC.ro f e t xs∈l->f=true
 |[],_,f,e,t,xs,hm=>by simp at hm
 |c::l,h,f,e,t,xs,hm=>by
  have hl:cV l=true/\∀f e t xs,c=.ro f e t xs->f=true:=by
   cases c with
   |ro f e t xs =>
    simp only[cV,aJ]at h;exact⟨h.2,fun f' e' t' xs' e=>by cases e;exact h.1⟩
   |_=>exact⟨h,fun f e t xs e'=>by cases e'⟩
  rcases gS.1 hm with hm|hm
  ·exact hl.2 f e t xs hm.symm
  ·exact OJ hl.1 f e t xs hm
theorem ams:∀{l:List AC},pY st l=true->∀id len,AC.own id len∈l->∃b,st.rS id=some b/\b.f=true
 |[],_,id,len,hm=>by simp at hm
 |c::l,h,id,len,hm=>by
  have hl:pY st l=true/\∀j m,c=.own j m->∃b,st.rS j=some b/\b.f=true:=by
   cases c with
   |own j m =>
    simp only[pY,aJ]at h;refine⟨h.2,fun j' m' e=>?_⟩;cases e;cases hb:st.rS j with
    |none=>rw[hb]at h;simp at h
    |some b=>rw[hb]at h;exact⟨b,rfl,h.1⟩
   |_=>exact⟨h,fun j m e=>by cases e⟩
  rcases gS.1 hm with hm|hm
  ·exact hl.2 id len hm.symm
  ·exact ams hl.1 id len hm
theorem acE {id:Nat}:∀(l:List AC) (st:St),azy id l=true->look (st.freeze l).bl id=look st.bl id
 |[],st,_=>rfl
 |c::l,st,h=>by
  show look ((st.eo c).freeze l).bl id=_;have hl:azy id l=true/\∀j m,c=.own j m->j≠id:=by
   cases c with
   |own j m =>
    simp only[azy,aJ]at h;refine⟨h.2,fun j' m' e=>?_⟩;cases e;exact bI h.1
   |_=>exact⟨h,fun j m e=>by cases e⟩
  rw[acE l _ hl.1];cases c with
  |own j m =>
   cases hb:st.rS j with
   |none=>rw[Q5 hb]
   |some b =>
    rw[nY hb];have:=hl.2 j m rfl;simp[aw,this]
  |_=>rfl
theorem OK {G':Gh}{l:List AC}(h':Inv w0 G' (st.freeze l) a w)(ho:pY st l=true){nf:Bool}(hn:nf=true->cV l=true){bx:List (Nat×List AC)} :
  ∀t c v xs,c∈l->bN G' w (st.freeze l).bx (st.freeze l).bl c v->de (st.freeze l) t c=some xs->∀e,Rd w (RO G' nf) (.sl e t) xs [v]:=by
 intro t c v xs hm hr hd e;have Ea:∀f,(nf=true->f=true)->∀g,RO G' f g->RO G' nf g:=fun f hf g hg=>hg.Ea hf
 refine kD h' hr hd (fun id len b hc hl=>?_) (fun f e u ys hc=>?_) e
 ·subst hc;obtain⟨b0,hb0,hf⟩:=ams ho id len hm;have:=Jd l st id len b0 hm (fi hb0);rw[hl]at this;cases this;exact⟨Ea b0.f fun _=>hf,fun hw=>by cases hw⟩
 ·subst hc;exact Ea f fun hnf=>OJ (hn hnf) f e u ys hm
theorem ajC (h:Inv w0 G st a w)(t:TypeId)(x y:Operand)(ho:o.op=.store t x y)(hk:(st.eP y).kn=true)(hkn:ahY (st.eP y).cells=true)(hs:P.cellsOf t=(st.eP y).cells.length)(hi:(P.info? t).isSome=true)
  {id:Nat} {i:Int} {off:Nat} (hx:st.ac x=.Ln id i off) {b:gp} (hb:st.rS id=some b) (hw:b.w=true) (hon:pY st (st.eP y).cells=true) (hni:azy id (st.eP y).cells=true)
  {z:b.t.D} (hz:AP st b.t (b.xs.getD i.toNat b.t.aF) (off,(st.eP y).cells)=some (z,(0,[])))
  (hr:({(st.freeze (st.eP y).cells) with bl:=(id,some {b with xs:=b.xs.set i.toNat z,f:=b.f&&cV (st.eP y).cells})::(st.freeze (st.eP y).cells).bl}:St).pk o.dst (.Ul []) k=some r) (hK:rW w0 k r K):o.wp P a w K Q:=by
 have hl0:=fi hb;have aFq:=(h.eP y).cells hk;have aLA:=h.ac x;rw[hx]at aLA;obtain⟨cs,hcs⟩:∃cs,(st.eP y).cells=cs:=⟨_,rfl⟩;rw[hcs]at hr hz hon hni hs hkn aFq;obtain⟨G',h',hxt,hst,hsd⟩:=Inv.freeze cs h;have hcell:cT (bN G' w (st.freeze cs).bx (st.freeze cs).bl) cs (a.eval y).cells.toList:=aFq.imp fun _ _=>bN.mono hxt hst
 have hxr:=bN.mono hxt hst (c:=.Ln id i off) aLA;have hl:look (st.freeze cs).bl id=some (some b):=(acE cs st hni).trans hl0;obtain⟨_,_,hi0,g,q,n,cap,hv,hin,hp⟩:=hxr;have hp:=hp b hl;have hbo:=h'.bl id b hl;obtain⟨rows,bH,hgo,Fg⟩:=hbo.wr hw;obtain⟨hlen,aFr⟩:=bH;rcases aFr with ⟨he,_⟩|⟨g',azJ,cur,he,Ed,hh,hnc,hcm,hsz,htk⟩
 ·rw[hv]at he;cases he
 ·rw[hv]at he;injection he with e1 e2 e3
  injection e1 with e1
  injection e1 with e4 e5 _
  subst e4 e5 e2 e3;have aLC:=hgo g (by rw[hv];rfl);have hj:i.toNat<b.xs.length:=by omega
  obtain⟨c,kt,hcc⟩:=Fg i.toNat _ (Bp hj b.t.aF);have hf':∀f:Bool,((b.f&&cV cs)=true->f=true)->∀g,RO G' f g->RO G' (b.f&&cV cs) g:=fun f hf g hg=>hg.Ea hf
  have hbf:∀g,RO G' b.f g->RO G' (b.f&&cV cs) g:=hf' b.f fun h=>by simp at h;exact h.1
  have Lm:AP (st.freeze cs) b.t (b.xs.getD i.toNat b.t.aF) (off,cs)=some (z,(0,[])):=by rw[afw hsd];exact hz
  obtain⟨c',vs',hrz,hv0,hwr,_⟩:=at4 (ok:=RO G' (b.f&&cV cs)) (OK (bx:=st.bx) h' hon fun h=>by simp at h;exact h.2) (jr hbf kt) hcell Lm;have hvs:vs'=[]:=by
   cases vs' with
   |nil=>rfl
   |cons _ _=>exact hv0.elim
  subst hvs;obtain⟨azP,awK⟩:=at3 c off _ c' hwr;have aPh:=kt.len;have aaH:=alE hcell (acC hkn);have aFm:=hcell.len;have hcl:cur.size=cap*b.t.n:=hsz;have gF:(i.toNat+1)*b.t.n<=b.xs.length*b.t.n:=F4 _ (by omega);have aJa:b.xs.length*b.t.n<=cap*b.t.n:=F4 _ hnc;rw[Lu,QX]at gF;obtain⟨vs,hvs⟩:∃vs,(a.eval y).cells.toList=vs:=⟨_,rfl⟩;rw[hvs]at hcell aFm aaH hwr awK azP;have hle:i.toNat*b.t.n+off+vs.length<=cur.toList.length:=by simp;omega
  have hrun:=acB (P:=P) (t:=t) (o:=0+(i.toNat*b.t.n+off)) (v:=a.eval y) (by rw[hs,hvs];exact aFm) hi hh (by rw[hvs];simp at hle ⊢;omega) (by rw[hvs];exact aaH);rw[hvs,xf]at hrun;have ase:∀q:Nat,(cur.toList.take (i.toNat*b.t.n+off)++vs++cur.toList.drop (i.toNat*b.t.n+off+vs.length))[q]?=if i.toNat*b.t.n+off<=q/\q<i.toNat*b.t.n+off+vs.length then vs[q-(i.toNat*b.t.n+off)]? else cur.toList[q]?:=fun q=>azO hle q
  obtain⟨cur',hcur⟩:∃cur',cur.toList.take (i.toNat*b.t.n+off)++vs++cur.toList.drop (i.toNat*b.t.n+off+vs.length)=cur':=⟨_,rfl⟩;rw[hcur]at hrun ase;have aBX:cur'.length=cur.size:=by rw[<-hcur];simp;omega
  have aFs:=aaI (w:=w) (cs:=cur'.toArray) aLC (by simp);have aHV:Ec G' (w.setRow g cur'.toArray) id {b with xs:=b.xs.set i.toNat z,f:=b.f&&cV cs}:=by
   refine⟨fun _=>⟨cur'.take (b.xs.length*b.t.n),⟨?_,.inr ⟨g,cap,cur'.toArray,?_,Ed,setRow_heap w g cur _ _ _ hh,by simpa using hnc,hcm,by simp[aBX,hsz],by simp⟩⟩,hgo,?_⟩,fun hw'=>?_,hbo.pos⟩
   ·simp[aBX];omega
   ·simp[hv]
   ·intro jj xx hjj;dsimp only at hjj;have hjl:jj<b.xs.length:=by
     rcases acn jj b.xs.length with h|h
     ·exact h
     ·simp[List.getElem?_eq_none (show(b.xs.set i.toNat z).length<=jj by simpa using h)]at hjj
    have hrj:(jj+1)*b.t.n<=b.xs.length*b.t.n:=F4 _ (by omega);rw[Lu,QX]at hrj;by_cases YQ:jj=i.toNat
    ·subst YQ;have:xx=z:=by rw[List.getElem?_set]at hjj;simp[hjl]at hjj;exact hjj.symm
     rw[this];refine⟨c',aFs.rd hrz,fun ii u hu=>?_⟩;have hil:ii<b.t.n:=by have:=hrz.len;have h2:=(xV.1 hu).1;omega
     rw[awK]at hu;show(cur'.take (b.xs.length*b.t.n))[i.toNat*b.t.n+ii]?=some u;rw[OC,ak (by omega),ase];by_cases aLD:off<=ii/\ii<off+vs.length
     ·rw[ak aLD]at hu;rw[ak (by omega),show i.toNat*b.t.n+ii-(i.toNat*b.t.n+off)=ii-off by omega];exact hu
     ·rw[ah aLD]at hu;rw[ah (by omega)];have:=hcc ii u hu;rw[<-htk,OC,ak (by omega)]at this;exact this
    ·have hxx:b.xs[jj]?=some xx:=by rw[List.getElem?_set]at hjj;simpa [fun e=>YQ (Eq.symm e),show ¬i.toNat=jj from fun e=>YQ e.symm]using hjj
     obtain⟨c2,hr2,hc2⟩:=Fg jj xx hxx;refine⟨c2,jr hbf (aFs.rd hr2),fun ii u hu=>?_⟩;have hil:ii<b.t.n:=by have:=hr2.len;have h2:=(xV.1 hu).1;omega
     show(cur'.take (b.xs.length*b.t.n))[jj*b.t.n+ii]?=some u;have aFu:¬(i.toNat*b.t.n+off<=jj*b.t.n+ii/\jj*b.t.n+ii<i.toNat*b.t.n+off+vs.length):=by
      rcases Nat.lt_or_gt_of_ne YQ with hlt|hgt
      ·have:(jj+1)*b.t.n<=i.toNat*b.t.n:=F4 _ (by omega);rw[Lu,QX]at this;omega
      ·have:(i.toNat+1)*b.t.n<=jj*b.t.n:=F4 _ (by omega);rw[Lu,QX]at this;omega
     rw[OC,ak (by omega),ase,ah aFu];have:=hc2 ii u hu;rw[<-htk,OC,ak (by omega)]at this;exact this
   ·rw[show b.w=false from hw']at hw;cases hw
  have hinv:=h'.aHP id b hl hw g (by rw[hv];rfl) cur'.toArray {b with xs:=b.xs.set i.toNat z,f:=b.f&&cV cs} rfl aHV;refine aFf (w':=w.setRow g cur'.toArray) ?_ (Cr hinv (v:=.Ul []) (u:=undef) ⟨#[],rfl,trivial⟩ hr hK);unfold execOp;rw[ho];dsimp only;rw[hp];simp only[Instr.storeAt,Instr.sureAddr,Sem.run_bind,Sem.run_pure,Result.andThen_ok,xf,hrun]
end
end Go.Am
