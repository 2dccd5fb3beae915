/- No condition. -/
import Derived.Test.YtfapcfpkbahneaaGreatDoorQpAmOps4
set_option linter.all false
namespace Go.Am
open Go.RowKit
def wrC:List Value->Nat->List Value->List Value×(Nat×List Value)
 |[],o,vs=>([],(o,vs))|u::c,o+1,vs=>let q:=wrC c o vs;(u::q.1,q.2)
 |u::c,0,[]=>(u::c,(0,[]))|u::c,0,v::vs=>let q:=wrC c 0 vs;(v::q.1,q.2)
def ac2:∀(c:List Value),wrC c 0 []=(c,(0,[]))
 |[]=>rfl|_::_=>rfl
def avi:∀(c1 c2:List Value) (o:Nat) (vs:List Value),wrC (c1++c2) o vs=((wrC c1 o vs).1++(wrC c2 (wrC c1 o vs).2.1 (wrC c1 o vs).2.2).1,(wrC c2 (wrC c1 o vs).2.1 (wrC c1 o vs).2.2).2)
 |[],c2,o,vs=>by cases o<;>rfl
 |u::c1,c2,o+1,vs=>by simp only[Gt,wrC,avi c1 c2 o vs]
 |u::c1,c2,0,[]=>by simp only[Gt,wrC,ac2]
 |u::c1,c2,0,v::vs=>by simp only[Gt,wrC,avi c1 c2 0 vs]
def avj:∀(c:List Value) (o:Nat) (vs c':List Value),wrC c o vs=(c',(0,[]))->o+vs.length<=c.length/\∀i,c'[i]?=if o<=i/\i<o+vs.length then vs[i-o]? else c[i]?
 |[],o,vs,c',h=>by
  cases o<;>(simp[wrC]at h)
  obtain⟨rfl,rfl⟩:=h;simp
 |u::c,o+1,vs,c',h=>by
  simp only[wrC]at h;injection h with h1 h2
  obtain⟨h3,h4⟩:=avj c o vs (wrC c o vs).1 (by rw[<-h2]);subst h1;refine⟨by simp;omega,fun i=>?_⟩;cases i with
  |zero=>simp
  |succ i =>
   simp only[List.getElem?_cons_succ,h4 i];have e1:(o+1<=i+1/\i+1<o+1+vs.length)↔(o<=i/\i<o+vs.length):=by omega
   simp only[e1,show i+1-(o+1)=i-o by omega]
 |u::c,0,[],c',h=>by simp[wrC]at h;subst h;refine⟨by simp,fun i=>?_⟩;rw[ah (by simp)]
 |u::c,0,v::vs,c',h=>by
  simp only[wrC]at h;injection h with h1 h2
  obtain⟨h3,h4⟩:=avj c 0 vs (wrC c 0 vs).1 (by rw[<-h2]);subst h1;refine⟨by simp at h3 ⊢;omega,fun i=>?_⟩;cases i with
  |zero=>simp
  |succ i =>
   simp only[List.getElem?_cons_succ,h4 i];by_cases hi:i<vs.length
   .rw[ai ⟨by omega,by omega⟩,ai ⟨by omega,by simp;omega⟩];simp
   .rw[ah (by omega),ah (by simp;omega)]
def aBh {cur vs:List Value}{p:Nat}(h:p+vs.length<=cur.length)(q:Nat):(cur.take p++vs++cur.drop (p+vs.length))[q]?=if p<=q/\q<p+vs.length then vs[q-p]? else cur[q]?:=by
 simp only[iT,auQ,bV,OQ,air];have e:min p cur.length=p:=by omega
 rw[e];by_cases h1:q<p
 .rw[ai h1,ai h1,ah (by omega)]
 .rw[ah h1];by_cases h2:q-p<vs.length
  .rw[ai h2,ai ⟨by omega,by omega⟩]
  .rw[ah h2,ah (by omega)]
   congr 1
   omega
section
variable {P:Program} {w0:fR} {w:World} {G:Gh} {st:St} {a:Act} {U:Type} {k:St->Option U} {r:U} {K:Act->World->Prop} {Q:Exit->Act->World->Prop} {o:Oper}
def afY {st dV:St}(h:iE st dV):∀(t:Ty) (x:t.D) (s:Nat×List AC),Be dV t x s=Be st t x s
 |.unit,x,s=>rfl|.pair t u,x,s=>by
  simp only[Be];rw[afY h t];cases Be st t x.1 s with
  |none=>rfl|some y=>dsimp only;rw[afY h u]
 |.int k,x,(0,[])=>rfl|.int k,x,(0,c::l)=>by simp only[Be];rw[vd h]
 |.int k,x,(o+1,l)=>rfl|.bool,x,(0,[])=>rfl|.bool,x,(0,c::l)=>by simp only[Be];rw[vd h]
 |.bool,x,(o+1,l)=>rfl|.str,x,(0,[])=>rfl|.str,x,(0,c::l)=>by simp only[Be];rw[vd h]
 |.str,x,(o+1,l)=>rfl|.sl _ _,x,(0,[])=>rfl|.sl _ _,x,(0,c::l)=>by simp only[Be];rw[vd h]
 |.sl _ _,x,(o+1,l)=>rfl
def Jz {t:Ty}{ok:Nat->Prop}{x:t.D}{c:List Value}(h:Rd w ok t x c)(hn:t.n=1):∃u,c=[u]:=by
 have:=h.len;rw[hn]at this;cases c with
 |nil=>cases this
 |cons u c =>
  cases c with
  |nil=>exact⟨u,rfl⟩|cons _ _=>simp at this
def X2 {ok:Nat->Prop}{bx:List (Nat×List AC)}{bl:List (Nat×Option gB)}{t:Ty}(hn:t.n=1){c:AC}{l:List AC}{vs:List Value}{cs:List Value}{x:t.D}{y:t.D}{rest:List AC}
  (hc:∀t c' v xs,c'∈c::l->bS G w bx bl c' v->dm st t c'=some xs->∀e,Rd w ok (.sl e t) xs [v]) (hx:Rd w ok t x cs) (hr:cT (bS G w bx bl) (c::l) vs) (hi:im st t [c]=some (y,rest)) :
  ∃c' vs',Rd w ok t y c'/\cT (bS G w bx bl) l vs'/\wrC cs 0 vs=(c',(0,vs')):=by
 cases vs with
 |nil=>exact hr.elim
 |cons v vs =>
  obtain⟨u,rfl⟩:=Jz hx hn;obtain⟨vs1,vs2,he,kz,_,_⟩:=OV (l:=[c]) (vs:=[v]) (fun t c' v' xs hm=>hc t c' v' xs (by simp at hm;simp[hm])) ⟨hr.1,trivial⟩ hi;obtain⟨z,rfl⟩:=Jz kz hn;have:z=v:=by simp at he;exact he.1.symm
  subst this;exact⟨[z],vs,kz,hr.2,by cases vs<;>rfl⟩
def avk {ok:Nat->Prop}{bx:List (Nat×List AC)}{bl:List (Nat×Option gB)}:∀{t:Ty} {x:t.D} {cs:List Value} {o:Nat} {l:List AC} {vs:List Value} {y:t.D} {o':Nat} {l':List AC},
  (∀t c v xs,c∈l->bS G w bx bl c v->dm st t c=some xs->∀e,Rd w ok (.sl e t) xs [v])->Rd w ok t x cs->cT (bS G w bx bl) l vs->Be st t x (o,l)=some (y,(o',l')) ->
  ∃c' vs',Rd w ok t y c'/\cT (bS G w bx bl) l' vs'/\wrC cs o vs=(c',(o',vs'))/\∀c∈l',c∈l
 |.unit,x,cs,o,l,vs,y,o',l',hc,hx,hr,hs=>by simp only[Be]at hs;cases hs;rw[show cs=[] from hx];exact⟨[],vs,rfl,hr,by cases o<;>rfl,fun _ h=>h⟩
 |.pair t u,x,cs,o,l,vs,y,o',l',hc,hx,hr,hs=>by
  obtain⟨c1,c2,rfl,hx1,hx2⟩:=hx;simp only[Be]at hs;split at hs
  .rename_i y1 s1 h1;obtain⟨o1,l1⟩:=s1;split at hs
   .rename_i y2 s2 h2;obtain⟨o2,l2⟩:=s2;cases hs;obtain⟨c1',vs1,hr1,hr2,hw1,hm1⟩:=avk hc hx1 hr h1;obtain⟨c2',vs2,hr3,hr4,hw2,hm2⟩:=avk (fun t c v xs hm=>hc t c v xs (hm1 c hm)) hx2 hr2 h2;refine⟨c1'++c2',vs2,⟨c1',c2',rfl,hr1,hr3⟩,hr4,?_,fun c hm=>hm1 c (hm2 c hm)⟩;rw[avi,hw1];dsimp only;rw[hw2]
   .cases hs
  .cases hs
 |.int k,x,cs,0,[],vs,y,o',l',hc,hx,hr,hs=>by
  simp only[Be]at hs;cases hs;cases vs with
  |nil=>exact⟨cs,[],hx,trivial,ac2 cs,fun _ h=>h⟩
  |cons _ _=>exact hr.elim
 |.bool,x,cs,0,[],vs,y,o',l',hc,hx,hr,hs=>by
  simp only[Be]at hs;cases hs;cases vs with
  |nil=>exact⟨cs,[],hx,trivial,ac2 cs,fun _ h=>h⟩
  |cons _ _=>exact hr.elim
 |.str,x,cs,0,[],vs,y,o',l',hc,hx,hr,hs=>by
  simp only[Be]at hs;cases hs;cases vs with
  |nil=>exact⟨cs,[],hx,trivial,ac2 cs,fun _ h=>h⟩
  |cons _ _=>exact hr.elim
 |.sl e t,x,cs,0,[],vs,y,o',l',hc,hx,hr,hs=>by
  simp only[Be]at hs;cases hs;cases vs with
  |nil=>exact⟨cs,[],hx,trivial,ac2 cs,fun _ h=>h⟩
  |cons _ _=>exact hr.elim
 |.int k,x,cs,0,c::l,vs,y,o',l',hc,hx,hr,hs=>by
  simp only[Be]at hs;split at hs
  .rename_i n rest hi;cases hs;obtain⟨c',vs',h1,h2,h3⟩:=X2 rfl hc hx hr hi;exact⟨c',vs',h1,h2,h3,fun _ h=>by simp[h]⟩
  .cases hs
 |.bool,x,cs,0,c::l,vs,y,o',l',hc,hx,hr,hs=>by
  simp only[Be]at hs;split at hs
  .rename_i n rest hi;cases hs;obtain⟨c',vs',h1,h2,h3⟩:=X2 rfl hc hx hr hi;exact⟨c',vs',h1,h2,h3,fun _ h=>by simp[h]⟩
  .cases hs
 |.str,x,cs,0,c::l,vs,y,o',l',hc,hx,hr,hs=>by
  simp only[Be]at hs;split at hs
  .rename_i n rest hi;cases hs;obtain⟨c',vs',h1,h2,h3⟩:=X2 rfl hc hx hr hi;exact⟨c',vs',h1,h2,h3,fun _ h=>by simp[h]⟩
  .cases hs
 |.sl e t,x,cs,0,c::l,vs,y,o',l',hc,hx,hr,hs=>by
  simp only[Be]at hs;split at hs
  .rename_i n rest hi;cases hs;obtain⟨c',vs',h1,h2,h3⟩:=X2 rfl hc hx hr hi;exact⟨c',vs',h1,h2,h3,fun _ h=>by simp[h]⟩
  .cases hs
 |.int k,x,cs,o+1,l,vs,y,o',l',hc,hx,hr,hs=>by simp only[Be]at hs;cases hs;obtain⟨u,rfl⟩:=Jz hx rfl;exact⟨[u],vs,hx,hr,by cases o<;>rfl,fun _ h=>h⟩
 |.bool,x,cs,o+1,l,vs,y,o',l',hc,hx,hr,hs=>by simp only[Be]at hs;cases hs;obtain⟨u,rfl⟩:=Jz hx rfl;exact⟨[u],vs,hx,hr,by cases o<;>rfl,fun _ h=>h⟩
 |.str,x,cs,o+1,l,vs,y,o',l',hc,hx,hr,hs=>by simp only[Be]at hs;cases hs;obtain⟨u,rfl⟩:=Jz hx rfl;exact⟨[u],vs,hx,hr,by cases o<;>rfl,fun _ h=>h⟩
 |.sl e t,x,cs,o+1,l,vs,y,o',l',hc,hx,hr,hs=>by simp only[Be]at hs;cases hs;obtain⟨u,rfl⟩:=Jz hx rfl;exact⟨[u],vs,hx,hr,by cases o<;>rfl,fun _ h=>h⟩
def OW:∀{l:List AC},cZ l=true->∀f e t xs,AC.ro f e t xs∈l->f=true
 |[],_,f,e,t,xs,hm=>by simp at hm
 |c::l,h,f,e,t,xs,hm=>by
  have hl:cZ l=true/\∀f e t xs,c=.ro f e t xs->f=true:=by
   cases c with
   |ro f e t xs =>
    simp only[cZ,aI]at h;exact⟨h.2,fun f' e' t' xs' e=>by cases e;exact h.1⟩
   |_=>exact⟨h,fun f e t xs e'=>by cases e'⟩
  rcases dE.1 hm with hm|hm
  .exact hl.2 f e t xs hm.symm
  .exact OW hl.1 f e t xs hm
def ane:∀{l:List AC},p7 st l=true->∀id len,AC.own id len∈l->∃b,st.rZ id=some b/\b.f=true
 |[],_,id,len,hm=>by simp at hm
 |c::l,h,id,len,hm=>by
  have hl:p7 st l=true/\∀j m,c=.own j m->∃b,st.rZ j=some b/\b.f=true:=by
   cases c with
   |own j m =>
    simp only[p7,aI]at h;refine⟨h.2,fun j' m' e=>?_⟩;cases e;cases hb:st.rZ j with
    |none=>rw[hb]at h;simp at h|some b=>rw[hb]at h;exact⟨b,rfl,h.1⟩
   |_=>exact⟨h,fun j m e=>by cases e⟩
  rcases dE.1 hm with hm|hm
  .exact hl.2 id len hm.symm
  .exact ane hl.1 id len hm
def ac3 {id:Nat}:∀(l:List AC) (st:St),aA1 id l=true->look (st.freeze l).bl id=look st.bl id
 |[],st,_=>rfl|c::l,st,h=>by
  show look ((st.eF c).freeze l).bl id=_;have hl:aA1 id l=true/\∀j m,c=.own j m->j≠id:=by
   cases c with
   |own j m =>
    simp only[aA1,aI]at h;refine⟨h.2,fun j' m' e=>?_⟩;cases e;exact bO h.1
   |_=>exact⟨h,fun j m e=>by cases e⟩
  rw[ac3 l _ hl.1];cases c with
  |own j m =>
   cases hb:st.rZ j with
   |none=>rw[Ru hb]
   |some b =>
    rw[om hb];have:=hl.2 j m rfl;simp[aw,this]
  |_=>rfl
def OX {G':Gh}{l:List AC}(h':Inv w0 G' (st.freeze l) a w)(ho:p7 st l=true){nf:Bool}(hn:nf=true->cZ l=true){bx:List (Nat×List AC)} :
  ∀t c v xs,c∈l->bS G' w (st.freeze l).bx (st.freeze l).bl c v->dm (st.freeze l) t c=some xs->∀e,Rd w (RO G' nf) (.sl e t) xs [v]:=by
 intro t c v xs hm hr hd e;have Ez:∀f,(nf=true->f=true)->∀g,RO G' f g->RO G' nf g:=fun f hf g hg=>hg.Ez hf
 refine kL h' hr hd (fun id len b hc hl=>?_) (fun f e u ys hc=>?_) e
 .subst hc;obtain⟨b0,hb0,hf⟩:=ane ho id len hm;have:=Jy l st id len b0 hm (fw hb0);rw[hl]at this;cases this;exact⟨Ez b0.f fun _=>hf,fun hw=>by cases hw⟩
 .subst hc;exact Ez f fun hnf=>OW (hn hnf) f e u ys hm
def akc (h:Inv w0 G st a w)(t:TypeId)(x y:Operand)(ho:o.op=.store t x y)(hk:(st.eZ y).kn=true)(hkn:aix (st.eZ y).cells=true)(hs:P.cellsOf t=(st.eZ y).cells.length)(hi:(P.info? t).isSome=true)
  {id:Nat} {i:Int} {off:Nat} (hx:st.ac x=.LI id i off) {b:gB} (hb:st.rZ id=some b) (hw:b.w=true) (hon:p7 st (st.eZ y).cells=true) (hni:aA1 id (st.eZ y).cells=true)
  {z:b.t.D} (hz:Be st b.t (b.xs.getD i.toNat b.t.aG) (off,(st.eZ y).cells)=some (z,(0,[])))
  (hr:({(st.freeze (st.eZ y).cells) with bl:=(id,some {b with xs:=b.xs.set i.toNat z,f:=b.f&&cZ (st.eZ y).cells})::(st.freeze (st.eZ y).cells).bl}:St).pk o.dst (.UO []) k=some r) (hK:sg w0 k r K):o.wp P a w K Q:=by
 have hl0:=fw hb;have aG4:=(h.eZ y).cells hk;have aNG:=h.ac x;rw[hx]at aNG;obtain⟨cs,hcs⟩:∃cs,(st.eZ y).cells=cs:=⟨_,rfl⟩;rw[hcs]at hr hz hon hni hs hkn aG4;obtain⟨G',h',hxt,hst,hsd⟩:=Inv.freeze cs h;have hcell:cT (bS G' w (st.freeze cs).bx (st.freeze cs).bl) cs (a.eval y).cells.toList:=aG4.imp fun _ _=>bS.mono hxt hst
 have hxr:=bS.mono hxt hst (c:=.LI id i off) aNG;have hl:look (st.freeze cs).bl id=some (some b):=(ac3 cs st hni).trans hl0;obtain⟨_,_,hi0,g,q,n,cap,hv,hin,hp⟩:=hxr;have hp:=hp b hl;have hbo:=h'.bl id b hl;obtain⟨rows,bK,hgo,FA⟩:=hbo.wr hw;obtain⟨hlen,aG5⟩:=bK;rcases aG5 with ⟨he,_⟩|⟨g',aBc,cur,he,EB,hh,hnc,hcm,hsz,htk⟩
 .rw[hv]at he;cases he
 .rw[hv]at he;injection he with e1 e2 e3
  injection e1 with e1
  injection e1 with e4 e5 _
  subst e4 e5 e2 e3;have aNI:=hgo g (by rw[hv];rfl);have hj:i.toNat<b.xs.length:=by omega
  obtain⟨c,kz,hcc⟩:=FA i.toNat _ (BG hj b.t.aG);have hf':∀f:Bool,((b.f&&cZ cs)=true->f=true)->∀g,RO G' f g->RO G' (b.f&&cZ cs) g:=fun f hf g hg=>hg.Ez hf
  have hbf:∀g,RO G' b.f g->RO G' (b.f&&cZ cs) g:=hf' b.f fun h=>by simp at h;exact h.1
  have LH:Be (st.freeze cs) b.t (b.xs.getD i.toNat b.t.aG) (off,cs)=some (z,(0,[])):=by rw[afY hsd];exact hz
  obtain⟨c',vs',hrz,hv0,hwr,_⟩:=avk (ok:=RO G' (b.f&&cZ cs)) (OX (bx:=st.bx) h' hon fun h=>by simp at h;exact h.2) (jE hbf kz) hcell LH;have hvs:vs'=[]:=by
   cases vs' with
   |nil=>rfl|cons _ _=>exact hv0.elim
  subst hvs;obtain⟨aBi,ax1⟩:=avj c off _ c' hwr;have aRp:=kz.len;have aa5:=amd hcell (ac1 hkn);have aG0:=hcell.len;have hcl:cur.size=cap*b.t.n:=hsz;have gO:(i.toNat+1)*b.t.n<=b.xs.length*b.t.n:=Gs _ (by omega);have aLb:b.xs.length*b.t.n<=cap*b.t.n:=Gs _ hnc;rw[LP,Rl]at gO;obtain⟨vs,hvs⟩:∃vs,(a.eval y).cells.toList=vs:=⟨_,rfl⟩;rw[hvs]at hcell aG0 aa5 hwr ax1 aBi;have hle:i.toNat*b.t.n+off+vs.length<=cur.toList.length:=by simp;omega
  have hrun:=ac0 (P:=P) (t:=t) (o:=0+(i.toNat*b.t.n+off)) (v:=a.eval y) (by rw[hs,hvs];exact aG0) hi hh (by rw[hvs];simp at hle ⊢;omega) (by rw[hvs];exact aa5);rw[hvs,xK]at hrun;have ati:∀q:Nat,(cur.toList.take (i.toNat*b.t.n+off)++vs++cur.toList.drop (i.toNat*b.t.n+off+vs.length))[q]?=if i.toNat*b.t.n+off<=q/\q<i.toNat*b.t.n+off+vs.length then vs[q-(i.toNat*b.t.n+off)]? else cur.toList[q]?:=fun q=>aBh hle q
  obtain⟨cur',hcur⟩:∃cur',cur.toList.take (i.toNat*b.t.n+off)++vs++cur.toList.drop (i.toNat*b.t.n+off+vs.length)=cur':=⟨_,rfl⟩;rw[hcur]at hrun ati;have aDp:cur'.length=cur.size:=by rw[<-hcur];simp;omega
  have aG6:=aa6 (w:=w) (cs:=cur'.toArray) aNI (by simp);have aJN:EA G' (w.setRow g cur'.toArray) id {b with xs:=b.xs.set i.toNat z,f:=b.f&&cZ cs}:=by
   refine⟨fun _=>⟨cur'.take (b.xs.length*b.t.n),⟨?_,.inr ⟨g,cap,cur'.toArray,?_,EB,setRow_heap w g cur _ _ _ hh,by simpa using hnc,hcm,by simp[aDp,hsz],by simp⟩⟩,hgo,?_⟩,fun hw'=>?_,hbo.pos⟩
   .simp[aDp];omega
   .simp[hv]
   .intro jj xx hjj;dsimp only at hjj;have hjl:jj<b.xs.length:=by
     rcases LO jj b.xs.length with h|h
     .exact h
     .simp[List.getElem?_eq_none (show(b.xs.set i.toNat z).length<=jj by simpa using h)]at hjj
    have hrj:(jj+1)*b.t.n<=b.xs.length*b.t.n:=Gs _ (by omega);rw[LP,Rl]at hrj;by_cases Zf:jj=i.toNat
    .subst Zf;have:xx=z:=by rw[List.getElem?_set]at hjj;simp[hjl]at hjj;exact hjj.symm
     rw[this];refine⟨c',aG6.rd hrz,fun ii u hu=>?_⟩;have hil:ii<b.t.n:=by have:=hrz.len;have h2:=(xJ.1 hu).1;omega
     rw[ax1]at hu;show(cur'.take (b.xs.length*b.t.n))[i.toNat*b.t.n+ii]?=some u;rw[OQ,ai (by omega),ati];by_cases aNJ:off<=ii/\ii<off+vs.length
     .rw[ai aNJ]at hu;rw[ai (by omega),show i.toNat*b.t.n+ii-(i.toNat*b.t.n+off)=ii-off by omega];exact hu
     .rw[ah aNJ]at hu;rw[ah (by omega)];have:=hcc ii u hu;rw[<-htk,OQ,ai (by omega)]at this;exact this
    .have hxx:b.xs[jj]?=some xx:=by rw[List.getElem?_set]at hjj;simpa [fun e=>Zf (Eq.symm e),show ¬i.toNat=jj from fun e=>Zf e.symm]using hjj
     obtain⟨c2,hr2,hc2⟩:=FA jj xx hxx;refine⟨c2,jE hbf (aG6.rd hr2),fun ii u hu=>?_⟩;have hil:ii<b.t.n:=by have:=hr2.len;have h2:=(xJ.1 hu).1;omega
     show(cur'.take (b.xs.length*b.t.n))[jj*b.t.n+ii]?=some u;have aG7:¬(i.toNat*b.t.n+off<=jj*b.t.n+ii/\jj*b.t.n+ii<i.toNat*b.t.n+off+vs.length):=by
      rcases Nat.lt_or_gt_of_ne Zf with hlt|hgt
      .have:(jj+1)*b.t.n<=i.toNat*b.t.n:=Gs _ (by omega);rw[LP,Rl]at this;omega
      .have:(i.toNat+1)*b.t.n<=jj*b.t.n:=Gs _ (by omega);rw[LP,Rl]at this;omega
     rw[OQ,ai (by omega),ati,ah aG7];have:=hc2 ii u hu;rw[<-htk,OQ,ai (by omega)]at this;exact this
   .rw[show b.w=false from hw']at hw;cases hw
  have hinv:=h'.aJH id b hl hw g (by rw[hv];rfl) cur'.toArray {b with xs:=b.xs.set i.toNat z,f:=b.f&&cZ cs} rfl aJN;refine aGS (w':=w.setRow g cur'.toArray) ?_ (CM hinv (v:=.UO []) (u:=undef) ⟨#[],rfl,trivial⟩ hr hK);unfold execOp;rw[ho];dsimp only;rw[hp];simp only[Instr.storeAt,Instr.sureAddr,Sem.run_bind,Sem.run_pure,Result.andThen_ok,xK,hrun]
end
end Go.Am
