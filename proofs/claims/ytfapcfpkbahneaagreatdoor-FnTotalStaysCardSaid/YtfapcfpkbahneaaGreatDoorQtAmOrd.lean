/- Lemmas for the claim. No condition. -/
import Derived.Test.YtfapcfpkbahneaaGreatDoorQtAmDraw
import Derived.Test.YtfapcfpkbahneaaGreatDoorQtAmKeep
import Derived.OrdersHeld
set_option linter.all false
namespace Go.Am
open Go.RowKit
section
variable {N:Nat} {P:Program} {C:FuncId->Option Any} {w0:fJ} {w:World} {G:Gh} {st:St} {a:Act} {α:Type} {r:α} {o:Oper}
def Sup (ops:Array Oper)(l l':Array Bool):Prop :=
 l.size=l'.size/\(∀i,l.getD i false=true->l'.getD i false=true) /\
  ∀i o,ops[i]?=some o->l.getD i false=false->l'.getD i false=true->∀e∈o.after,Region.binds .any e=true->l'.getD e.on false=true
theorem Sup.refl (ops:Array Oper)(l:Array Bool):Sup ops l l:=⟨rfl,fun _ h=>h,fun _ _ _ h h'=>by rw[h]at h';cases h'⟩
theorem Sup.trans {ops:Array Oper}{a b c:Array Bool}(h:Sup ops a b)(k:Sup ops b c):Sup ops a c :=
 ⟨h.1.trans k.1,fun i hi=>k.2.1 i (h.2.1 i hi),fun i o ho h1 h2 e he hb=>by
  cases hx:b.getD i false with
  |true=>exact k.2.1 _ (h.2.2 i o ho h1 hx e he hb)
  |false=>exact k.2.2 i o ho hx h2 e he hb⟩
theorem Sup.set {ops:Array Oper}{l:Array Bool}{i:Nat}(hi:i∈Region.ready .any ops l):Sup ops l (l.setIfInBounds i true):=by
 refine⟨by simp,fun _ h=>getD_set_true h,fun j o ho h1 h2 e he hb=>?_⟩;by_cases hij:i=j
 ·subst hij;obtain⟨_,o',ho',nZ⟩:=mem_ready.1 hi;rw[ho]at ho';cases ho';exact getD_set_true (nZ e he hb)
 ·rw[getD_set_ne false hij,h1]at h2;cases h2
theorem Cv {l:Array Bool}{i:Nat}(h:i<l.size):l.getD i true=l.getD i false:=by simp[OB,h]
def N4 (P:Program)(ops:Array Oper)(Q:Exit->Act->World->Prop)(S:Array Bool->World->Prop):Nat->Array Bool->Act->World->Prop
 |0,l,a,w=>Region.ready .any ops l=[]/\Q .normal a w
 |n+1,l,a,w =>
  (Region.ready .any ops l=[]->Q .normal a w) /\
  ∀i∈Region.ready .any ops l,wpOp P ops Q i (fun a' w'=>S (l.setIfInBounds i true) w'/\N4 P ops Q S n (l.setIfInBounds i true) a' w') a w
theorem amI {ops:Array Oper}{Q:Exit->Act->World->Prop}{S:Array Bool->World->Prop}:∀(n:Nat) (l:Array Bool) (a:Act) (w:World),N4 P ops Q S n l a w->wpAny P .any ops Q n l a w
 |0,_,_,_,h=>h
 |n+1,_,_,_,h=>⟨h.1,fun i hi=>wpOp_mono (fun a' w' h'=>amI n _ a' w' h'.2) (h.2 i hi)⟩
theorem xk {ops:Array Oper}{Q:Exit->Act->World->Prop}{S S':Array Bool->World->Prop}:∀(n:Nat) {l:Array Bool} {a:Act} {w:World},(∀l' w',Sup ops l l'->S' l' w'->S l' w')->N4 P ops Q S' n l a w->N4 P ops Q S n l a w
 |0,_,_,_,_,h=>h
 |n+1,l,_,_,hS,h=>⟨h.1,fun i hi=>wpOp_mono (fun a' w' h'=>⟨hS _ _ (Sup.set hi) h'.1,xk n (fun l' w' hs=>hS l' w' ((Sup.set hi).trans hs)) h'.2⟩) (h.2 i hi)⟩
theorem aw0 {ops:Array Oper}{Q:Exit->Act->World->Prop}{S:Array Bool->World->Prop}{l:Array Bool}{a:Act}{w:World}(hr:Region.ready .any ops l=[])(h:Q .normal a w):∀n,N4 P ops Q S n l a w
 |0=>⟨hr,h⟩
 |_+1=>⟨fun _=>h,by rw[hr];simp⟩
theorem aul {ops:Array Oper}{Q:Exit->Act->World->Prop}{S:Array Bool->World->Prop}{S0:World->Prop}{i:Nat}{oi:Oper}{v:Value}(hi:ops[i]?=some oi)
  (aLV:∀(j:Nat) (o:Oper) cs b,ops[j]?=some o->o.op≠.select cs b) (hQ:∀c a w,Q (.panic c) (a.put oi.dst v) w->Q (.panic c) a w) (hSi:∀l w,S (l.setIfInBounds i true) w↔S l w) :
  ∀(ajG:Nat) (l:Array Bool) (a:Act) (w:World),
   (∀j oj,ops[j]?=some oj->j≠i->l.getD j true=false->(∀e∈oj.after,Region.binds .any e=true->e.on≠i)->oi.apart ops oj=true) ->
   i∈Region.ready .any ops l->YieldsIf P ops S0 oi v a->(∀l' w',Sup ops l l'->l'.getD i true=false->S l' w'->S0 w')->S l w ->
   N4 P ops Q S ajG (l.setIfInBounds i true) (a.put oi.dst v) w->N4 P ops Q S (ajG+1) l a w:=by
 intro ajG
 induction ajG with
 |zero =>
  intro l a w _ hr hy hS0 hS H;refine⟨fun h=>(by rw[h]at hr;cases hr),fun j hj=>?_⟩;by_cases YQ:j=i
  ·subst YQ;exact hy.wpOp hi (hS0 l w (Sup.refl ops l) (mem_ready.1 hr).1 hS) ⟨(hSi l w).2 hS,H⟩
  ·have:=ready_mono hj YQ;rw[H.1]at this;cases this
 |succ ajG ih =>
  intro l a w aB7 hr hy hS0 hS H;refine⟨fun h=>(by rw[h]at hr;cases hr),fun j hj=>?_⟩;by_cases YQ:j=i
  ·subst YQ;exact hy.wpOp hi (hS0 l w (Sup.refl ops l) (mem_ready.1 hr).1 hS) ⟨(hSi l w).2 hS,H⟩
  ·have h1:=H.2 j (ready_mono hj YQ);obtain⟨aLW,oj,hoj,nZ⟩:=mem_ready.1 hj;have aFu:∀e∈oj.after,Region.binds .any e=true->e.on≠i:=fun e he hb heq=>by
    have h1:=nZ e he hb;have h0:=(mem_ready.1 hr).1;rw[heq]at h1;rcases acn i l.size with h'|h'
    ·rw[Cv h']at h0;rw[h0]at h1;cases h1
    ·simp[Array.getElem?_eq_none h']at h1
   have h2:=wpOp_putIf hoj (aB7 j oj hoj YQ aLW aFu) (fun cs b=>aLV i oi cs b hi) (fun cs b=>aLV j oj cs b hoj) hQ hy h1;have aKc:∀k ok,ops[k]?=some ok->k≠i->(l.setIfInBounds j true).getD k true=false ->
     (∀e∈ok.after,Region.binds .any e=true->e.on≠i)->oi.apart ops ok=true:=fun k ok hk hki hun hno=>by
    refine aB7 k ok hk hki ?_ hno;by_cases hjk:j=k
    ·subst hjk;exact aLW
    ·rw[getD_set_ne true hjk]at hun;exact hun
   refine wpOp_mono (fun a' w' h3=>?_) h2;have hSj:S (l.setIfInBounds j true) w':=by have:=h3.2.1;rw[Array.setIfInBounds_comm _ _ (Ne.symm YQ)]at this;exact(hSi _ _).1 this
   refine⟨hSj,ih (l.setIfInBounds j true) a' w' aKc (ready_mono hr (Ne.symm YQ)) h3.1 (fun l' w'' hs=>hS0 l' w'' ((Sup.set hj).trans hs)) hSj ?_⟩;rw[Array.setIfInBounds_comm _ _ YQ];exact h3.2.2
def Off (C:FuncId->Option Any)(ops:Array Oper)(a:Act)(l0:Array Bool)(k:Nat)(oc:Oper):Prop :=
 ∃t g,afo C oc=some t/\(∀j oj,ops[j]?=some oj->l0.getD j false=false->oj.dst≠some t)/\a.tmps.getD t undef=.pointer (some ⟨g,0,none⟩)/\g≠k
def SI (P:Program)(C:FuncId->Option Any)(ops:Array Oper)(G:Gh)(w:World)(a:Act)(l0 l:Array Bool)(w':World):Prop :=
 w.heap.size<=w'.heap.size/\(∀g,g<w.heap.size->G.own g=none->w'.heap[g]?=w.heap[g]?) /\
  ((∀c oc,ops[c]?=some oc->qP P C ops oc=false->l.getD c true=l0.getD c true)->Below w.heap.size w w') /\
  ∀k,k<w.heap.size->(∀c oc,ops[c]?=some oc->qP P C ops oc=false->l0.getD c false=false->l.getD c false=true->Off C ops a l0 k oc)->w'.heap[k]?=w.heap[k]?
theorem SI.refl {ops:Array Oper}(l0 l:Array Bool):SI P C ops G w a l0 l w:=⟨cp _,fun _ _ _=>rfl,fun _=>Below.refl _ w,fun _ _ _=>rfl⟩
theorem SI.set {ops:Array Oper}{l0:Array Bool}{i:Nat}{oi:Oper}(hi:ops[i]?=some oi)(hl:qP P C ops oi=true)(l:Array Bool)(w':World):SI P C ops G w a l0 (l.setIfInBounds i true) w'↔SI P C ops G w a l0 l w':=by
 have ne:∀c oc,ops[c]?=some oc->qP P C ops oc=false->i≠c:=by intro c oc hc Oz;rintro rfl;rw[hi]at hc;cases hc;rw[hl]at Oz;cases Oz
 have key:∀c oc,ops[c]?=some oc->qP P C ops oc=false->(l.setIfInBounds i true).getD c true=l.getD c true:=fun c oc hc Oz=>getD_set_ne true (ne c oc hc Oz)
 have aLX:∀c oc,ops[c]?=some oc->qP P C ops oc=false->(l.setIfInBounds i true).getD c false=l.getD c false:=fun c oc hc Oz=>getD_set_ne false (ne c oc hc Oz)
 refine⟨fun h=>⟨h.1,h.2.1,fun hm=>h.2.2.1 fun c oc hc Oz=>(key c oc hc Oz).trans (hm c oc hc Oz),fun k hk hm=>h.2.2.2 k hk fun c oc hc Oz h1 h2=>hm c oc hc Oz h1 (by rw[<-aLX c oc hc Oz];exact h2)⟩,
  fun h=>⟨h.1,h.2.1,fun hm=>h.2.2.1 fun c oc hc Oz=>((key c oc hc Oz).symm.trans (hm c oc hc Oz)),fun k hk hm=>h.2.2.2 k hk fun c oc hc Oz h1 h2=>hm c oc hc Oz h1 (by rw[aLX c oc hc Oz];exact h2)⟩⟩
theorem SI.step {ops:Array Oper}{l0 l1 l2:Array Bool}{w1 w2:World}{G1:Gh}{a1:Act}(h0:l0.size=ops.size)(h:SI P C ops G w a l0 l1 w1)(hG:∀g,g<w.heap.size->G.own g=none->G1.own g=none)
  (hst:∀t,(∀j oj,ops[j]?=some oj->l0.getD j false=false->oj.dst≠some t)->a1.tmps.getD t undef=a.tmps.getD t undef) (s1:Sup ops l0 l1) (s2:Sup ops l1 l2) (h2:SI P C ops G1 w1 a1 l1 l2 w2):SI P C ops G w a l0 l2 w2:=by
 refine⟨cN h.1 h2.1,fun g hg ho=>(h2.2.1 g (DZ hg h.1) (hG g hg ho)).trans (h.2.1 g hg ho),fun hm=>?_,fun k hk hm=>?_⟩
 ·have mid:∀c oc,ops[c]?=some oc->qP P C ops oc=false->l1.getD c true=l0.getD c true:=by
   intro c oc hc Oz;have hlt:c<ops.size:=(AS.1 hc).1;have e0:=hm c oc hc Oz;have l1s:l1.size=ops.size:=s1.1.symm.trans h0;have l2s:l2.size=ops.size:=s2.1.symm.trans l1s;rw[Cv (by omega),Cv (by omega)]at e0 ⊢;cases hx:l0.getD c false with
   |true=>exact s1.2.1 c hx
   |false =>
    cases hy:l1.getD c false with
    |false=>rfl
    |true =>
     rw[s2.2.1 c hy,hx]at e0;cases e0
  have b1:=h.2.2.1 mid;have b2:=h2.2.2.1 fun c oc hc Oz=>(hm c oc hc Oz).trans (mid c oc hc Oz).symm
  exact⟨b2.os.trans b1.os,b2.tape.trans b1.tape,b2.output.trans b1.output,cN b1.size b2.size,fun k hk=>(b2.block k (DZ hk b1.size)).trans (b1.block k hk)⟩
 ·have aLY:∀c,l1.getD c false=false->l0.getD c false=false:=by
   intro c hc;cases hx:l0.getD c false with
   |false=>rfl
   |true=>rw[s1.2.1 c hx]at hc;cases hc
  refine(h2.2.2.2 k (DZ hk h.1) fun c oc hc Oz h3 h4=>?_).trans (h.2.2.2 k hk fun c oc hc Oz h3 h4=>hm c oc hc Oz h3 (s2.2.1 c h4));obtain⟨t,g,e1,e2,e3,e4⟩:=hm c oc hc Oz (aLY c h3) h4;exact⟨t,g,e1,fun j oj hj hl=>e2 j oj hj (aLY j hl),(hst t e2).trans e3,e4⟩
theorem Inv.aDH (h:Inv w0 G st a w){d g:Nat}(hd:look st.bx d=none)(hdt:d<st.nt)(hg:G.own g=some .hid)(hno:w0.hd g=none){cs:Array Value}{e:TypeId}(hh:w.heap[g]?=some (.cells cs e (0,0))){l:List AC}
  (hl:cT (bN G w st.bx st.bl) l cs.toList) (htm:a.tmps.getD d undef=.pointer (some ⟨g,0,none⟩)) :
  Inv w0 (G.box d g) {(st.put d (.v (.c (.ptr d 0)))) with bx:=(d,l)::st.bx} a w:=by
 have hx:amg G w (G.box d g) w:=⟨rfl,rfl,cp _,fun b hb ho=>⟨by
  have:b≠g:=by rintro rfl;rw[hg]at ho;cases ho
  simp[Gh.box,this,ho],rfl⟩⟩
 have hne:∀x,(look st.bx x).isSome=true->x≠d:=by rintro x hs rfl;rw[hd]at hs;cases hs
 have hs:kR G st.bx st.bl (G.box d g) ((d,l)::st.bx) st.bl:=by refine⟨fun x hs=>⟨xj _ trivial hs,by simp[Gh.box,hne x hs]⟩,fun id hd=>⟨hd,rfl,fun b' Cq=>⟨b',Cq,rfl⟩⟩⟩
 refine⟨h.nw,h.rok,h.below,h.defers,h.size,j2.mo hx hs h.sp,fun g' b o hm=>?_,fun t v hv=>?_,fun x m hm=>?_,fun id b hb=>?_,fun g' k hk=>?_⟩
 ·obtain⟨h1,h2,h3⟩:=h.hd g' b o hm;refine⟨?_,h2,h3⟩;have:g'≠g:=by rintro rfl;rw[hno]at hm;cases hm
  simp only[Gh.box,this,gT];exact h1
 ·simp only[St.put,aw]at hv;by_cases ht:d=t
  ·subst ht;rw[ak rfl]at hv;cases hv;rw[htm];exact⟨by simp[aw],by simp[Gh.box]⟩
  ·rw[ah ht]at hv;exact j2.mo hx hs (h.tm t v hv)
 ·simp only[aw]at hm;by_cases hxd:d=x
  ·subst hxd;rw[ak rfl]at hm;cases hm;exact⟨cs,e,by simpa [Gh.box]using hh,by simp[Gh.box],hl.imp fun _ _=>bN.mo hx hs⟩
  ·rw[ah hxd]at hm;obtain⟨cs',e',h1,h2,h3⟩:=h.bx x m hm;have aFe:x≠d:=fun e=>hxd e.symm
   have hgn:G.hb x≠g:=by intro e3;rw[e3,hg]at h2;cases h2
   exact⟨cs',e',by simpa [Gh.box,aFe]using h1,by simp[Gh.box,aFe,hgn,h2],h3.imp fun _ _=>bN.mo hx hs⟩
 ·refine(h.bl id b hb).mo hx rfl fun hw g' hgo bH=>⟨?_,rfl⟩
  have:g'≠g:=by rintro rfl;rw[hg]at bH;cases bH
  simp[Gh.box,this,bH]
 ·by_cases he:g'=g
  ·subst he;simp only[Gh.box,ig]at hk;cases hk;exact⟨(h.own g' _ hg).1,(h.own g' _ hg).2.1,by simp[aw],by simp[Gh.box]⟩
  ·simp only[Gh.box,he,gT]at hk;obtain⟨h1,h2,h3⟩:=h.own g' k hk;refine⟨h1,h2,?_⟩;cases k with
   |hid=>trivial
   |bx x =>
    obtain⟨h4,h5⟩:=hs.bx x h3.1;exact⟨h4,by rw[h5];exact h3.2⟩
   |bl id=>exact h3
def Gh.rowAt (G:Gh)(id g:Nat)(v:Value):Gh :=
 {nw:=G.nw,ok:=G.ok,hb:=G.hb,hv:=fun x=>if x=id then v else G.hv x,own:=fun x=>if x=g then some (.bl id) else G.own x}
theorem Inv.aDI (h:Inv w0 G st a w){d g:Nat}(hd:look st.bl (d*64)=none)(hdt:d<st.nt)(hg:G.own g=some .hid)(hno:w0.hd g=none){e:TypeId}{cs:List Value}(hh:w.heap[g]?=some (.cells cs.toArray e (0,0))){u:Ty}(hu:0<u.n){n:Nat}{xs:List u.D}{f:Bool}
  (hx1:xs.length=n) (hx2:cs.length=xs.length*u.n) (hx3:n<=maxLen) (Fg:fL w (RO G f) u cs xs)
  (htm:a.tmps.getD d undef=.slice (some ⟨g,0,none⟩) n n) :
  Inv w0 (G.rowAt (d*64) g (.slice (some ⟨g,0,none⟩) n n)) {(st.put d (.v (.c (.own (d*64) none)))) with bl:=(d*64,some ⟨e,u,xs,f,true⟩)::st.bl} a w:=by
 have hx:amg G w (G.rowAt (d*64) g (.slice (some ⟨g,0,none⟩) n n)) w:=⟨rfl,rfl,cp _,fun b hb ho=>⟨by
  have:b≠g:=by rintro rfl;rw[hg]at ho;cases ho
  simp[Gh.rowAt,this,ho],rfl⟩⟩
 have hne:∀x,(look st.bl x).isSome=true->x≠d*64:=by rintro x hs rfl;rw[hd]at hs;cases hs
 have hs:kR G st.bx st.bl (G.rowAt (d*64) g (.slice (some ⟨g,0,none⟩) n n)) st.bx ((d*64,some ⟨e,u,xs,f,true⟩)::st.bl):=by refine⟨fun x hs=>⟨hs,rfl⟩,fun id hs=>⟨xj _ trivial hs,by simp[Gh.rowAt,hne id hs],fun b' Cq=>?_⟩⟩;rw[aw,ah (fun e=>hne id hs e.symm)]at Cq;exact⟨b',Cq,rfl⟩
 refine⟨h.nw,h.rok,h.below,h.defers,h.size,j2.mo hx hs h.sp,fun g' b o hm=>?_,fun t v hv=>?_,fun x m hm=>?_,fun id b hb=>?_,fun g' k hk=>?_⟩
 ·obtain⟨h1,h2,h3⟩:=h.hd g' b o hm;refine⟨?_,h2,h3⟩;have:g'≠g:=by rintro rfl;rw[hno]at hm;cases hm
  simp only[Gh.rowAt,this,gT];exact h1
 ·simp only[St.put,aw]at hv;by_cases ht:d=t
  ·subst ht;rw[ak rfl]at hv;cases hv;rw[htm];exact⟨by simp[aw],⟨some ⟨g,0,none⟩,n,n,by simp[Gh.rowAt]⟩,by simp[Gh.rowAt]⟩
  ·rw[ah ht]at hv;exact j2.mo hx hs (h.tm t v hv)
 ·obtain⟨cs',e',h1,h2,h3⟩:=h.bx x m hm;have hgn:G.hb x≠g:=by intro e3;rw[e3,hg]at h2;cases h2
  exact⟨cs',e',h1,by simp[Gh.rowAt,hgn,h2],h3.imp fun _ _=>bN.mo hx hs⟩
 ·simp only[aw]at hb;by_cases hi:d*64=id
  ·subst hi;rw[ak rfl]at hb;cases hb;refine⟨fun _=>⟨cs,⟨hx2,.inr ⟨g,n,cs.toArray,by simp[Gh.rowAt,hx1],aX _,hh,by show xs.length<=n;omega,hx3,by simp[hx2,hx1],?_⟩⟩,fun g' hg'=>?_,Fg.mo hx⟩,(fun hw=>by cases hw),hu⟩
   ·show List.take (xs.length*u.n) cs.toArray.toList=cs;rw[<-hx2];simp
   ·simp only[Gh.rowAt,ig,Value.ownBlock]at hg' ⊢;cases hg';simp
  ·rw[ah hi]at hb;have hi':id≠d*64:=fun e=>hi e.symm
   refine(h.bl id b hb).mo hx (by simp[Gh.rowAt,hi']) fun hw g' hgo bH=>⟨?_,rfl⟩
   have:g'≠g:=by rintro rfl;rw[hg]at bH;cases bH
   simp[Gh.rowAt,this,bH]
 ·by_cases he:g'=g
  ·subst he;simp only[Gh.rowAt,ig]at hk;cases hk;exact⟨(h.own g' _ hg).1,(h.own g' _ hg).2.1,by simp[aw],by simp[Gh.rowAt,Value.ownBlock]⟩
  ·simp only[Gh.rowAt,he,gT]at hk;obtain⟨h1,h2,h3⟩:=h.own g' k hk;refine⟨h1,h2,?_⟩;cases k with
   |hid=>trivial
   |bx x=>exact h3
   |bl id =>
    obtain⟨h4,h5,_⟩:=hs.bl id h3.1;exact⟨h4,by rw[h5];exact h3.2⟩
theorem n4 {d t:Nat}(h:t≠d)(u:Value):(a.put (some d) u).tmps.getD t undef=a.tmps.getD t undef:=by simp[Act.put,OB,aBF,Ne.symm h]
theorem Inv.aN3 (h:Inv w0 G st a w){d:Nat}(hd:look st.tm d=none)(u:Value):Inv w0 G st (a.put (some d) u) w:=by refine {h with defers:=h.defers,size:=by simp[Act.put,h.size],tm:=fun t v hv=>?_};rw[n4 (by rintro rfl;rw[hd]at hv;cases hv)];exact h.tm t v hv
theorem Inv.aN4 (h:Inv w0 G st a w)(o:Obj) :
  Inv {w0 with hd:=fun g=>if g=w.heap.size then some (true,o) else w0.hd g} {G with own:=fun g=>if g=w.heap.size then some .hid else G.own g} st a (w.alloc o):=by
 have hne:∀b,b<w.heap.size->b≠w.heap.size:=fun b hb=>Nat.ne_of_lt hb
 have hold:∀b,b<w.heap.size->(w.alloc o).heap[b]?=w.heap[b]?:=fun b hb=>by show(w.heap.push o)[b]?=_;rw[Array.getElem?_push,ah (hne b hb)]
 have hsz:(w.alloc o).heap.size=w.heap.size+1:=by show(w.heap.push o).size=_;rw[Array.size_push]
 have hx:amg G w {G with own:=fun g=>if g=w.heap.size then some .hid else G.own g} (w.alloc o):=⟨rfl,rfl,by omega,fun b hb ho=>⟨by simp[hne b hb,ho],hold b hb⟩⟩;have hs:kR G st.bx st.bl {G with own:=fun g=>if g=w.heap.size then some .hid else G.own g} st.bx st.bl:=⟨fun _ h=>⟨h,rfl⟩,fun _ h=>⟨h,rfl,fun b' Cq=>⟨b',Cq,rfl⟩⟩⟩;refine⟨h.nw,h.rok,h.below.step rfl rfl rfl (by omega) fun k hk _=>hold k (DZ hk h.below.size),h.defers,h.size,j2.mo hx hs h.sp,fun g b ob hm=>?_,fun t v hv=>j2.mo hx hs (h.tm t v hv),fun d l hl=>?_,fun id b hb=>?_,fun g k hk=>?_⟩
 ·dsimp only at hm;by_cases hg:g=w.heap.size
  ·rw[ak hg]at hm;cases hm;subst hg;exact⟨by simp[aBN],by omega,by show(w.heap.push o)[w.heap.size]?=_;rw[Array.getElem?_push,ak rfl]⟩
  ·rw[ah hg]at hm;obtain⟨h1,h2,h3⟩:=h.hd g b ob hm;exact⟨by simp[hg,h1],by omega,(hold g h2).trans h3⟩
 ·obtain⟨cs,e,h1,h2,h3⟩:=h.bx d l hl;have hlt:=(h.own _ _ h2).2.1;exact⟨cs,e,(hold _ hlt).trans h1,by simp[hne _ hlt,h2],h3.imp fun _ _=>bN.mo hx hs⟩
 ·exact Ec.mo hx rfl (fun hw g hg ho=>by have hlt:=(h.own _ _ ho).2.1;exact⟨by simp[hne _ hlt,ho],hold _ hlt⟩) (h.bl id b hb)
 ·dsimp only at hk;by_cases hg:g=w.heap.size
  ·rw[ak hg]at hk;cases hk;exact⟨.inl (by rw[hg];exact h.below.size),by omega,trivial⟩
  ·rw[ah hg]at hk;obtain⟨h1,h2,h3⟩:=h.own g k hk;refine⟨h1,by omega,?_⟩;cases k with
   |hid=>trivial
   |bx x=>exact h3
   |bl id=>exact h3
theorem IQ {β:Type}(t s:Nat):∀l:List (Nat×β),look (l.filter fun p=> !Nat.beq p.1 t) s=if s=t then none else look l s
 |[]=>by simp[look]
 |(k,v)::l=>by
  have ih:=IQ t s l;by_cases hk:k=t
  ·have:(!Nat.beq (k,v).1 t)=false:=by simp[hk]
   rw[List.filter_cons_of_neg (by simp[this]),ih,aw];by_cases hs:s=t
   ·simp[hs]
   ·simp[hs,hk,Ne.symm hs]
  ·have hb:(!Nat.beq (k,v).1 t)=true:=by
    cases h:Nat.beq k t with
    |true=>exact absurd (aP h) hk
    |false=>simp[h]
   rw[List.filter_cons_of_pos (p:=fun p:Nat×β=> !Nat.beq p.1 t) hb,aw,aw,ih];by_cases hs:s=t
   ·simp[hs,hk]
   ·simp[hs]
theorem Inv.aH5 (h:Inv w0 G st a w)(t:Tmp):Inv w0 G (st.drop t) a w:=by
 refine {h with tm:=fun s v hs=>h.tm s v ?_};unfold St.drop at hs;dsimp only at hs;rw[IQ]at hs;split at hs
 ·cases hs
 ·exact hs
theorem qS {ops:Array Oper}{l:Array Bool}:∀(is:List Nat) {st:St},Inv w0 G st a w->Inv w0 G (tT P ops l is st) a w
 |[],_,h=>h
 |i::is,st,h=>by
  unfold tT;split
  ·split
   ·exact(qS is h).aH5 _
   ·exact qS is h
  ·exact qS is h
theorem aib {ops:Array Oper}{l:Array Bool}{x:Nat}{o:Oper}{d:Tmp}(ho:ops[x]?=some o)(hf:dn P o=true)(hl:l.getD x true=false)(hd:o.dst=some d):∀(is:List Nat) (st:St),x∈is->look (tT P ops l is st).tm d=none
 |[],_,h=>by cases h
 |i::is,st,h=>by
  unfold tT;rcases gS.1 h with rfl|h
  ·rw[ho];simp only[hf,hl,hd,eX,Bool.and_self];show look (List.filter _ _) d=none;rw[IQ,ak rfl]
  ·have ih:=aib ho hf hl hd is st h;split
   ·split
    ·show look (List.filter _ _) d=none;rw[IQ];split
     ·rfl
     ·exact ih
    ·exact ih
   ·exact ih
def mkF (o:Oper)(g:Nat):Value:=match o.op with
 |.alloc _=>.pointer (some ⟨g,0,none⟩)
 |.buildSlice _ len _=>.slice (some ⟨g,0,none⟩) len len
 |_=>undef
def amJ (P:Program)(o:Oper)(a:Act)(obj:Obj):Prop:=match o.op with
 |.alloc t=>∃i v,P.info? t=some i/\i.zero=some v/\obj=.cells v.cells t (0,0)
 |.buildSlice t _ parts=>∃e,D7 P t=some e/\obj=.cells (afz a parts.toList).toArray e (0,0)
 |_=>False
theorem aic {a a':Act}:∀{l:List (Nat×Operand)},(∀p∈l,∀s,p.2=.tmp s->a'.tmps.getD s undef=a.tmps.getD s undef)->afz a' l=afz a l
 |[],_=>rfl
 |(j,x)::l,h=>by
  have h1:a'.eval x=a.eval x:=by
   cases x with
   |tmp s=>exact h (j,.tmp s) (by simp) s rfl
   |_=>rfl
  simp only[afz,h1,aic fun p hp=>h p (tI _ hp)]
theorem amJ.same {a a':Act}{obj:Obj}(h:amJ P o a obj)(ha:∀t,acs o t=true->a'.tmps.getD t undef=a.tmps.getD t undef):amJ P o a' obj:=by
 unfold amJ at h ⊢;unfold acs at ha;split at h
 ·exact h
 ·rename_i t len parts ho;simp only[ho]at ha;obtain⟨e,h1,h2⟩:=h;refine⟨e,h1,?_⟩;rw[aic (a:=a)]
  ·exact h2
  ·intro p hp s hs;exact ha s (List.any_eq_true.2 ⟨p,hp,by rw[hs];simp⟩)
 ·exact h
def aJl (P:Program)(C:FuncId->Option Any)(N:Nat)(o:Oper)(d:Tmp):Prop :=
 ∀{w0:fJ} {G:Gh} {st:St} {a:Act} {w:World} {g:Nat} {obj:Obj} {α:Type} {k:St->Option α} {r:α},Inv w0 G st a w->G.own g=some .hid->w0.hd g=none->w.heap[g]?=some obj->amJ P o a obj->a.tmps.getD d undef=mkF o g ->
  jD P C (rT.QY N) o st k=some r->∃G' dK,Inv w0 G' dK a w/\k dK=some r/\(∀b,G.own b=none->G'.own b=none)
theorem acP:∀{l:List AC} {st:St},xh l=true->st.freeze l=st
 |[],_,_=>rfl
 |c::l,st,h=>by
  have h1:st.eo c=st:=by cases c<;>first|rfl|(simp[xh]at h)
  have h2:xh l=true:=by cases c<;>first|exact h|(simp[xh]at h)
  show List.foldl St.eo (st.eo c) l=st;rw[h1];exact acP h2
theorem asv {l m:List AC}(h1:xh l=true)(h2:xh m=true):xh (l++m)=true:=by
 induction l with
 |nil=>exact h2
 |cons c l ih=>cases c<;>first|exact ih h1|(simp[xh]at h1)
theorem aaW:∀{t:Ty} {l r:List AC} {x:t.D},flat t=true->im st t l=some (x,r)->∃p,l=p++r/\xh p=true
 |.int k,[],_,_,_,h=>by simp[im]at h
 |.int k,c::l,_,_,_,h=>by
  cases c<;>simp[im]at h
  exact⟨[_],by rw[h.2.2];rfl,rfl⟩
 |.bool,[],_,_,_,h=>by simp[im]at h
 |.bool,c::l,_,_,_,h=>by
  cases c<;>simp[im]at h
  exact⟨[_],by rw[h.2];rfl,rfl⟩
 |.str,[],_,_,_,h=>by simp[im]at h
 |.str,c::l,_,_,_,h=>by
  cases c<;>simp[im]at h
  exact⟨[_],by rw[h.2];rfl,rfl⟩
 |.unit,l,r,x,_,h=>by simp only[im]at h;cases h;exact⟨[],rfl,rfl⟩
 |.pair t u,l,r,x,hf,h=>by
  simp only[flat,aJ]at hf;simp only[im]at h;split at h
  ·rename_i y r1 h1;split at h
   ·rename_i z r2 h2;cases h;obtain⟨p,e1,n1⟩:=aaW hf.1 h1;obtain⟨q,e2,n2⟩:=aaW hf.2 h2;exact⟨p++q,by rw[e1,e2,jZ],asv n1 n2⟩
   ·cases h
  ·cases h
 |.sl _ _,_,_,_,hf,_=>by simp[flat]at hf
theorem asw {u:Ty}(hf:flat u=true):∀{l:List (Nat×Operand)} {i:Nat} {xs:List u.D},jk st u i l=some xs->xh (cY st l)=true
 |[],_,_,_=>rfl
 |(j,x)::l,i,xs,h=>by
  simp only[jk]at h;split at h
  ·split at h
   ·rename_i y hy;split at h
    ·rename_i ys hys;obtain⟨p,e,n⟩:=aaW hf hy;rw[ie]at e;exact asv (by rw[e];exact n) (asw hf hys)
    ·cases h
   ·cases h
  ·cases h
theorem Q9 (hf:dn P o=true):∃d,o.dst=some d/\o.guard=none/\(∀{w0:fJ} {G:Gh} {st:St} {a:Act} {w:World},Inv w0 G st a w->Lw P st o=true->∃obj,(execOp a.eval o).run P w=.ok (.value (mkF o w.heap.size)) (w.alloc obj)/\amJ P o a obj)/\aJl P C N o d:=by
 unfold dn at hf;split at hf
 ·rename_i d t hg hd ho;split at hf
  ·rename_i z hz;obtain⟨i,v,hi,hv,rfl⟩:=jE hz;refine⟨d,hd,hg,fun _ _=>⟨.cells v.cells t (0,0),?_,?_⟩,?_⟩
   ·unfold execOp mkF;rw[ho];simp[Instr.alloc,zeroValue,typeInfo,hi,hv,Bo]
   ·unfold amJ;rw[ho];exact⟨i,v,hi,hv,rfl⟩
   ·intro w0 G st a w g obj α k r h hg' hno hh amK htm hr;unfold amJ at amK;simp only[ho]at amK;obtain⟨i',v',hi',hv',rfl⟩:=amK;rw[hi]at hi';cases hi';rw[hv]at hv';cases hv';simp only[jD,ho,hd,hz]at hr;split at hr
    ·rename_i hb;obtain⟨hc,hk⟩:=aY hr;rw[aJ]at hc;refine⟨_,_,h.aDH hb (il hc.1) hg' hno hh ((qQ v).cells hc.2) (by rw[htm];unfold mkF;rw[ho]),hk,fun b hb=>?_⟩;have:b≠g:=by rintro rfl;rw[hg']at hb;cases hb
     simp[Gh.box,this,hb]
    ·cases hr
  ·cases hf
 ·rename_i d t len parts hg hd ho;split at hf
  ·rename_i e he;split at hf
   ·rename_i u hu;simp only[aJ]at hf;obtain⟨⟨h1,h2⟩,⟨⟨⟨h3,h4⟩,h6⟩,h5⟩⟩:=hf;have hlen:=aP h2;have hp:0<u.n:=Uo (bI h4);have h16:=Ff h6;obtain⟨i,hi,his⟩:=pH (aP h3) hp;obtain⟨z,hz⟩:=mj.1 h5;obtain⟨i',zv,hi',hiz,_⟩:=jE hz;rw[hi]at hi';cases hi';have hut:P.underlying t=some (.slice e):=by
     unfold D7 at he;split at he
     ·rename_i e' hu;cases he;exact hu
     ·cases he
    refine⟨d,hd,hg,?_,?_⟩
    ·intro w0 G st a w h hkn;unfold Lw at hkn;simp only[ho,he,hu]at hkn;obtain⟨xs,hl⟩:=mj.1 hkn;have at0:((Array.range (len*u.n)).map (fun q=>(if len*u.n=0 then #[] else zv.cells)[q%(if len*u.n=0 then #[] else zv.cells).size]!)).size=(0+parts.toList.length)*u.n:=by simp[<-hlen]
     obtain⟨cs,UF,hcl,hxl,Fg,hpv⟩:=UI (ok:=fun _=>True) h hp parts.toList 0 _ xs (fun t c v ys _=>UK h t c v ys) at0 hl;simp only[al8,List.take_zero,F6]at UF;refine⟨.cells cs.toArray e (0,0),?_,?_⟩
     ·unfold execOp mkF;rw[ho];dsimp only;have:=Jg (P:=P) (w:=w) hut hi hiz (len:=len) (parts:=parts.map fun (i,x)=>(i,a.eval x)) (cells:=cs.toArray) (by rw[his];omega) (by rw[his,acj];exact UF);simp only[Sem.run_bind,this,Result.andThen_ok];rfl
     ·unfold amJ;rw[ho];exact⟨e,he,by rw[hpv]⟩
    ·intro w0 G st a w g obj α k r h hg' hno hh amK htm hr;unfold amJ at amK;simp only[ho]at amK;obtain⟨e',he',rfl⟩:=amK;rw[he]at he';cases he';simp only[jD,ho,hd,he,hu]at hr;split at hr
     ·rename_i xs hl;split at hr
      ·rename_i OO;have at0:((Array.range (len*u.n)).map (fun q=>(if len*u.n=0 then #[] else zv.cells)[q%(if len*u.n=0 then #[] else zv.cells).size]!)).size=(0+parts.toList.length)*u.n:=by simp[<-hlen]
       obtain⟨cs,_,hcl,hxl,Fg,hpv⟩:=UI (ok:=fun _=>True) h hp parts.toList 0 _ xs (fun t c v ys _=>UK h t c v ys) at0 hl;have hfz:xh (cY st parts.toList)=true:=by
        rw[mn]at h1;rcases h1 with h1|h1
        ·exact asw h1 hl
        ·have h0:=aP h1;have:parts.toList=[]:=YK (by omega);rw[this];rfl
       have aLZ:fL w (RO G (cV (cY st parts.toList))) u cs xs:=by
        rw[mn]at h1;rcases h1 with h1|h1
        ·exact amt h1 Fg
        ·have h0:=aP h1;have:xs=[]:=YK (by omega);subst this;exact fun j x hj=>by simp at hj
       rw[acP hfz]at hr;unfold St.row at hr;split at hr
       ·cases hr
       ·rename_i hb;obtain⟨hc,hk⟩:=aY hr;rw[<-hpv]at hh;have hle:len<=len*u.n:=atx _ hp;have hmax:maxLen=9223372036854775807:=rfl;refine⟨_,_,Inv.aDI (e:=e) (u:=u) (n:=len) h hb (il hc) hg' hno hh hp (by omega) hcl (by omega) aLZ (by rw[htm];unfold mkF;rw[ho]),hk,fun b hb=>?_⟩;have:b≠g:=by rintro rfl;rw[hg']at hb;cases hb
        simp[Gh.rowAt,this,hb]
      ·cases hr
     ·cases hr
   ·cases hf
  ·cases hf
 ·cases hf
theorem aDJ {k:St->Option α}(hf:dn P o=true)(hr:jD P C (rT.QY N) o st k=some r):Lw P st o=true:=by
 unfold dn at hf;split at hf
 ·rename_i d t hg hd ho;unfold Lw;rw[ho]
 ·rename_i d t len parts hg hd ho;unfold Lw;simp only[ho];simp only[jD,ho,hd]at hr;split at hf
  ·rename_i e he;split at hf
   ·rename_i u hu;simp only[he,hu]at hr ⊢;split at hr
    ·rename_i xs hl;rw[hl];rfl
    ·cases hr
   ·cases hf
  ·cases hf
 ·cases hf
def fJ.from (w0:fJ)(G:Gh)(w:World)(h1:w0.w.heap.size<=w.heap.size)(h2:∀g k,G.own g=some k->w0.nw g):fJ where
 w:=w
 ok:=w0.ok
 nw:=w0.nw
 fr g:=(G.own g).isSome=true
 hnw b hb:=w0.hnw b (cN h1 hb)
 hfr b hb:=by obtain⟨k,hk⟩:=mj.1 hb;exact h2 b k hk
 pv:=w0.pv
 hd g:=match w0.hd g with
  |some x=>some x
  |none=>match G.own g with
   |none=>(w.heap[g]?).map fun o=>(false,o)
   |some _=>none
theorem Inv.aL0 (h:Inv w0 G st a w):∀g k,G.own g=some k->w0.nw g:=fun g k hk=>by rw[<-h.nw];exact h.Uz hk
abbrev Inv.root (h:Inv w0 G st a w):fJ:=w0.from G w h.below.size h.aL0
theorem Inv.from (h:Inv w0 G st a w):Inv h.root G st a w:=by
 refine⟨h.nw,h.rok,fB.refl _ _,h.defers,h.size,h.sp,fun g b o hm=>?_,h.tm,h.bx,h.bl,fun g k hk=>?_⟩
 ·simp only[Inv.root,fJ.from]at hm;split at hm
  ·rename_i x hx;cases hm;exact h.hd g b o hx
  ·split at hm
   ·rename_i hg;cases hh:w.heap[g]? with
    |none=>rw[hh]at hm;cases hm
    |some o' =>
     rw[hh]at hm;cases hm;exact⟨hg,(AS.1 hh).1,rfl⟩
   ·cases hm
 ·obtain⟨_,h2,h3⟩:=h.own g k hk;exact⟨.inr (by simp[Inv.root,fJ.from,hk]),h2,h3⟩
theorem Inv.Bt (h:Inv w0 G st a w){w1:World}(hk:fB h.root.fr w w1):fB w0.fr w0.w w1 :=
 h.below.step hk.os hk.tape hk.output hk.size fun k hk1 hk2=>hk.block k (DZ hk1 h.below.size) fun hfr=>by
  obtain⟨q,hq⟩:=mj.1 (show(G.own k).isSome=true from hfr);rcases(h.own k q hq).1 with h1|h1
  ·omega
  ·exact hk2 h1
theorem Inv.amL (h:Inv w0 G st a w){G':Gh}{dK:St}{a':Act}{w':World}(h':Inv h.root G' dK a' w') :
  Inv w0 G' dK a' w'/\w.heap.size<=w'.heap.size/\∀g,g<w.heap.size->G.own g=none->G'.own g=none/\w'.heap[g]?=w.heap[g]?:=by
 refine⟨⟨h'.nw,h'.rok,h.Bt h'.below,h'.defers,h'.size,h'.sp,fun g b o hm=>h'.hd g b o ?_,h'.tm,h'.bx,h'.bl,fun g k hk=>?_⟩,h'.below.size,fun g hg ho=>?_⟩
 ·simp only[Inv.root,fJ.from,hm]
 ·obtain⟨h1,h2,h3⟩:=h'.own g k hk;refine⟨?_,h2,h3⟩;rcases h1 with h1|h1
  ·exact .inl (cN h.below.size h1)
  ·obtain⟨q,hq⟩:=mj.1 (show(G.own g).isSome=true from h1);exact(h.own g q hq).1
 ·cases hx:w0.hd g with
  |some x =>
   obtain⟨b,o⟩:=x;obtain⟨h1,h2,h3⟩:=h.hd g b o hx;obtain⟨h4,h5,h6⟩:=h'.hd g b o (by simp only[Inv.root,fJ.from,hx]);cases b with
   |true =>
    rw[ho]at h1;cases h1
   |false=>exact⟨h4,h6.trans h3.symm⟩
  |none =>
   have hh:w.heap[g]?=some w.heap[g]:=azp hg;obtain⟨h4,h5,h6⟩:=h'.hd g false w.heap[g] (by simp only[Inv.root,fJ.from,hx,ho,hh,Option.map_some]);exact⟨h4,h6.trans hh.symm⟩
theorem Inv.aL1 (h:Inv w0 G st a w){f:FuncId}{con:Any}(hc:Se P w0 f con):Se P h.root f con:=by
 cases con with
 |one c=>exact⟨hc.1,fun x r hg w1 hk=>hc.2 x r hg w1 (h.Bt hk)⟩
 |idx i=>exact⟨hc.1,fun W hk=>hc.2 W (h.Bt hk)⟩
 |ins e u=>exact⟨hc.1,fun W hk=>hc.2 W (h.Bt hk)⟩
 |del e u=>exact⟨hc.1,fun W hk=>hc.2 W (h.Bt hk)⟩
 |sel c =>
  refine⟨hc.1,hc.2.1,fun x r hg w1 hk ok nw own g0 vs u hh ha=>hc.2.2 x r hg w1 (h.Bt hk) ok nw own g0 vs u ⟨hh.mq,fun g j hj=>?_,hh.dO⟩ ha⟩;obtain⟨h1,h2,h3⟩:=hh.bH g j hj;refine⟨h1,h2,?_⟩;rcases h3 with h3|h3
  ·exact .inl (cN h.below.size h3)
  ·obtain⟨q,hq⟩:=mj.1 (show(G.own g).isSome=true from h3);exact(h.own g q hq).1
 |two c =>
  refine⟨hc.1,hc.2.1,fun x r hg w1 hk ok nw own g0 vs u hh ha=>hc.2.2 x r hg w1 (h.Bt hk) ok nw own g0 vs u ⟨hh.mq,fun g j hj=>?_,hh.dO⟩ ha⟩;obtain⟨h1,h2,h3⟩:=hh.bH g j hj;refine⟨h1,h2,?_⟩;rcases h3 with h3|h3
  ·exact .inl (cN h.below.size h3)
  ·obtain⟨q,hq⟩:=mj.1 (show(G.own g).isSome=true from h3);exact(h.own g q hq).1
theorem aH6 {K:Act->World->Prop}{Q:Exit->Act->World->Prop}(h:o.wp P a w K Q) :
  o.wp P a w (fun a' w'=>K a' w'/\a'.tmps.size=a.tmps.size/\∀t,o.dst≠some t->a'.tmps.getD t undef=a.tmps.getD t undef) Q:=by
 have key:∀(b:Act) u,b.tmps=a.tmps->(b.put o.dst u).tmps.size=a.tmps.size/\∀t,o.dst≠some t->(b.put o.dst u).tmps.getD t undef=a.tmps.getD t undef:=by
  intro b u hb;cases hd:o.dst with
  |none=>exact⟨by simp[Act.put,hb],fun t _=>by simp[Act.put,hb]⟩
  |some d =>
   refine⟨by simp[Act.put,hb],fun t ht=>?_⟩;have hne:t≠d:=fun e=>ht (by rw[e])
   rw[n4 hne,hb]
 unfold Oper.wp Oper.upon at h ⊢;split at h
 ·exact⟨h,key a _ rfl⟩
 ·exact⟨h,key a _ rfl⟩
 ·exact⟨h,key _ _ rfl⟩
 ·refine Calls.mono h fun e w' he=>?_
  cases e with
  |returned v=>exact⟨he,key a _ rfl⟩
  |panicked c=>exact he
  |_=>exact he
 ·exact Rows.mono h fun v w' he=>⟨he,key a _ rfl⟩
 all_goals exact h
theorem Jk (hc:pZ P o=true):dn P o=false:=by
 unfold dn;split
 ·rename_i ho;simp[pZ,ho]at hc
 ·rename_i ho;simp[pZ,ho]at hc
 ·rfl
theorem aDL {k:St->Option α}(h:Inv w0 G st a w)(hr:jD P C (rT.QY N) o st k=some r)(hm:atM o=true) :
  ∃v ob,(execOp a.eval o).run P w=.ok (.value v) (w.alloc ob):=by
 unfold atM at hm;split at hm
 ·rename_i t ho;simp only[jD,ho]at hr;split at hr
  ·split at hr
   ·split at hr
    ·rename_i z hz;obtain⟨i,v,hi,hv,rfl⟩:=jE hz;refine⟨.pointer (some ⟨w.heap.size,0,none⟩),.cells v.cells t (0,0),?_⟩;unfold execOp;rw[ho];simp[Instr.alloc,zeroValue,typeInfo,hi,hv,Bo]
    ·cases hr
   ·cases hr
  ·cases hr
 ·rename_i t x ho;refine⟨.pointer (some ⟨w.heap.size,0,none⟩),.cells (a.eval x).cells t (0,0),?_⟩;unfold execOp;rw[ho];simp[Instr.box,Bo]
 ·rename_i t len parts ho;simp only[jD,ho]at hr;split at hr
  ·rename_i d e hd he;split at hr
   ·rename_i u hu;split at hr
    ·rename_i xs hl;split at hr
     ·rename_i hc;obtain⟨cs,hx⟩:=ajE h t len parts ho he hl hc;exact⟨_,_,hx⟩
     ·cases hr
    ·cases hr
   ·cases hr
  ·cases hr
 ·cases hm
theorem aFK {ops:Array Oper}{k:St->Option α}(h:Inv w0 G st a w)(hr:jD P C (rT.QY N) o st k=some r){t:Tmp}(ht:aaG o=some t){g0:Nat}(hs0:a.tmps.getD t undef=.slice (some ⟨g0,0,none⟩) 0 0) :
  ∃v w',(execOp a.eval o).run P w=.ok (.value v) w'/\Below w.heap.size w w':=by
 unfold aaG at ht;split at ht
 ·rename_i args ts ho;split at ht
  ·rename_i t' y t1 t2 ha hts;split at ht
   ·rename_i hb;cases ht;have:=aP hb;subst this;simp only[jD,ho]at hr;split at hr
    ·rename_i d s x t1' t2' hd ha' aL2;rw[ha]at ha';rw[hts]at aL2;cases ha';cases aL2;split at hr
     ·rename_i e he;split at hr
      ·rename_i u z hu hz;exact azR h ho ha hts he hz (d:=d) hs0 hr
      ·cases hr
     ·cases hr
    ·cases hr
   ·cases ht
  ·cases ht
 ·cases ht
theorem jF (h:G9 P o=true):dn P o=true:=by unfold G9 at h;rw[aJ]at h;exact h.1
theorem amM (h:G9 P o=true)(g:Nat):mkF o g=.slice (some ⟨g,0,none⟩) 0 0:=by
 unfold G9 at h;rw[aJ]at h;unfold mkF;split at h
 ·rename_i ho;rw[ho]
 ·cases h.2
def aum (C:FuncId->Option Any)(o:Oper)(a:Act)(w w':World):Prop :=
 ∀t g k,afo C o=some t->a.tmps.getD t undef=.pointer (some ⟨g,0,none⟩)->k<w.heap.size->k≠g->w'.heap[k]?=w.heap[k]?
theorem aum.below {w':World}(h:Below w.heap.size w w'):aum C o a w w':=fun _ _ k _ _ hk _=>h.block k hk
theorem az3 {ops:Array Oper}{Q:Exit->Act->World->Prop}{k:St->Option α}(hC:∀f con,C f=some con->Se P w0 f con)(h:Inv w0 G st a w)(hr:jD P C (rT.QY N) o st k=some r)
  (hz:∀t,aaG o=some t->OG P ops o=true->∃g,a.tmps.getD t undef=.slice (some ⟨g,0,none⟩) 0 0) (hdl:∀d,dn P o=true->o.dst=some d->d<a.tmps.size) :
  o.wp P a w (fun a' w'=>(((∃G' dK,Inv w0 G' dK a' w'/\k dK=some r)/\(qP P C ops o=true->Below w.heap.size w w'))/\(G9 P o=true->∀d,o.dst=some d->∃g,a'.tmps.getD d undef=.slice (some ⟨g,0,none⟩) 0 0)/\aum C o a w w')/\a'.tmps.size=a.tmps.size/\∀t,o.dst≠some t->a'.tmps.getD t undef=a.tmps.getD t undef) Q:=by
 refine aH6 ?_;have hK:rW w0 k r (fun a' w'=>∃G' dK,Inv w0 G' dK a' w'/\k dK=some r):=fun G' dK a' w' h' lI=>⟨G',dK,h',lI⟩
 by_cases hl:qP P C ops o=true
 ·by_cases hc:pZ P o=true
  ·obtain⟨v,G',dK,he,hi,hk⟩:=aaV hc h hr;exact Jb (he w (x8 (Below.refl _ w))) ⟨⟨⟨G',dK,hi,hk⟩,fun _=>Below.refl _ w⟩,fun hem=>absurd (jF hem) (by rw[Jk hc];simp),.below (Below.refl _ w)⟩
  ·by_cases hf:dn P o=true
   ·obtain⟨d,hd,hg,he,_⟩:=Q9 (C:=C) (N:=N) hf;obtain⟨obj,he,_⟩:=he h (aDJ hf hr);have:=Eg (Q:=Q) hC h hr hK;unfold Oper.wp at this ⊢;rw[he]at this ⊢;refine⟨⟨this,fun _=>⟨rfl,rfl,rfl,by simp,fun k hk=>Below.heap_alloc _ _ _ hk⟩⟩,fun hem d' hd'=>⟨w.heap.size,?_⟩,.below ⟨rfl,rfl,rfl,by simp,fun k hk=>Below.heap_alloc _ _ _ hk⟩⟩;have hlt:=hdl d' hf hd';rw[hd',amM hem];simp[Act.put,OB,hlt]
   ·by_cases hm:atM o=true
    ·obtain⟨v,ob,he⟩:=aDL h hr hm;have:=Eg (Q:=Q) hC h hr hK;unfold Oper.wp at this ⊢;rw[he]at this ⊢;exact⟨⟨this,fun _=>⟨rfl,rfl,rfl,by simp,fun k hk=>Below.heap_alloc _ _ _ hk⟩⟩,fun hem=>absurd (jF hem) hf,.below ⟨rfl,rfl,rfl,by simp,fun k hk=>Below.heap_alloc _ _ _ hk⟩⟩
    by_cases hfa:OG P ops o=true
    ·obtain⟨t,ht⟩:∃t,aaG o=some t:=by
      cases hx:aaG o with
      |none=>simp[OG,hx]at hfa
      |some t=>exact⟨t,rfl⟩
     obtain⟨g,hg⟩:=hz t ht hfa;obtain⟨v,w',he,hB⟩:=aFK (ops:=ops) h hr ht hg;have:=Eg (Q:=Q) hC h hr hK;unfold Oper.wp at this ⊢;rw[he]at this ⊢;exact⟨⟨this,fun _=>hB⟩,fun hem=>absurd (jF hem) hf,.below hB⟩
    have hcall:azC C o=true:=by
     unfold qP at hl;simp only[mn]at hl;rcases hl with (((hl|hl)|hl)|hl)|hl
     ·exact absurd hl hc
     ·exact absurd hl hf
     ·exact hl
     ·exact absurd hl hm
     ·exact absurd hl hfa
    unfold azC at hcall;split at hcall
    ·rename_i f args ts cr;simp only[jD,cr]at hr;split at hr
     ·rename_i con fw;exact aia (show ah6 P w0 f con from hC f (.one con) fw) h cr hr fun G' dK a' w' h' lI hB=>⟨⟨⟨G',dK,h',lI⟩,fun _=>hB⟩,fun hem=>absurd (jF hem) hf,.below hB⟩
     ·rename_i con fw;rw[fw]at hcall;cases hcall
     ·rename_i con fw;rw[fw]at hcall;cases hcall
     ·rename_i fw;rw[fw]at hcall;cases hcall
     ·rename_i fw;rw[fw]at hcall;cases hcall
     ·rename_i fw;rw[fw]at hcall;cases hcall
     ·cases hr
    ·cases hcall
 ·have hem:∀{α:Prop},G9 P o=true->α:=fun hem=>absurd (show qP P C ops o=true by unfold qP;rw[jF hem];simp) hl
  cases hb:afo C o with
  |none=>exact Oper.wp_mono (fun a' w' h'=>⟨⟨h',fun h=>absurd h hl⟩,fun h=>hem h,fun t g k ht=>(by rw[hb]at ht;cases ht)⟩) (Eg (Q:=Q) hC h hr hK)
  |some t =>
   have hb0:=hb;unfold afo at hb;split at hb
   ·rename_i f args ts cr;split at hb
    ·rename_i con fw;have Sg:(con.pm=.box\/con.pm=.cur)/\nX args.toList con.i=some (.tmp t):=by
      cases hp:con.pm with
      |box =>
       rw[hp]at hb;dsimp only at hb;split at hb
       ·rename_i t' ht';cases hb;exact⟨.inl rfl,ht'⟩
       ·cases hb
      |cur =>
       rw[hp]at hb;dsimp only at hb;split at hb
       ·rename_i t' ht';cases hb;exact⟨.inr rfl,ht'⟩
       ·cases hb
      |rd=>rw[hp]at hb;cases hb
      |own f=>rw[hp]at hb;cases hb
     simp only[jD,cr,fw]at hr;refine Oper.wp_mono (fun a' w' h'=>⟨⟨h'.1,fun h=>absurd h hl⟩,fun h=>hem h,fun t' g k ht hv hk hne=>?_⟩) (acN (show aaP P w0 f con from hC f (.two con) fw) h cr hr hK);rw[hb0]at ht;cases ht;exact h'.2 (.tmp t) g Sg.1 Sg.2 hv k hk hne
    ·cases hb
   ·cases hb
theorem Ra {ops:Array Oper}{j:Nat}{oj:Oper}{dj:Tmp}{tmps:Array Value}(h1:nX ops.toList j=some oj)(h2:oj.dst=some dj) :
  yielded ops tmps j=match tmps.getD dj undef with|.bool b=>some b|_=>none:=by
 have h3:ops[j]?=some oj:=by rw[atZ]at h1;simpa using h1
 unfold yielded;rw[h3];simp only[al7,h2];rw[OB];cases tmps[dj]? with
 |none=>rfl
 |some v=>cases v<;>rfl
theorem YU {ops:Array Oper}{k:St->Option α}(h:Inv w0 G st a w)(hr:acr P C (rT.QY N) ops.toList o st k=some r) :
  (Region.wanted o (yielded ops a.tmps)=true/\∃dK,(dK=st\/∃dj b b',st.get dj=.v (.c (.bool b))/\dK=st.put dj (.v (.c (.bool b'))))/\Inv w0 G dK a w/\jD P C (rT.QY N) o dK k=some r) \/
  (Region.wanted o (yielded ops a.tmps)=false/\∃G' dK,Inv w0 G' dK (a.put o.dst undef) w/\k dK=some r):=by
 have UU:∀{st:St},Inv w0 G st a w->St.pk st o.dst (.Ul []) k=some r->∃G' dK,Inv w0 G' dK (a.put o.dst undef) w/\k dK=some r:=by
  intro st h hr;obtain⟨G',dK,h1,h2⟩:=Cr (K:=fun a' w'=>∃G' dK,Inv w0 G' dK a' w'/\k dK=some r) h (v:=.Ul []) (u:=undef) ⟨#[],rfl,trivial⟩ hr fun G' dK a' w' h' lI=>⟨G',dK,h',lI⟩
  exact⟨G',dK,h1,h2⟩
 unfold acr at hr;split at hr
 ·rename_i hg;exact .inl ⟨by simp[Region.wanted,hg],st,.inl rfl,h,hr⟩
 ·rename_i j Uu hg;split at hr
  ·rename_i oj hoj;split at hr
   ·rename_i dj hdj;have hy:=Ra (tmps:=a.tmps) hoj hdj;have Q3:=h.ev (.tmp dj);rw[show st.ev (.tmp dj)=st.get dj from rfl]at Q3;split at hr
    ·rename_i b hb;rw[hb]at Q3;have hv:a.tmps.getD dj undef=.bool b:=Q3;rw[hv]at hy;have acQ:∀b',b=b'->Inv w0 G (st.put dj (.v (.c (.bool b')))) a w:=by intro b' Cq;subst Cq;exact h.lit (.tmp dj) b hv
     rcases acw hr with ⟨hb1,hr⟩|⟨hb1,hr⟩
     ·subst hb1;cases Uu with
      |true=>exact .inl ⟨by simp[Region.wanted,hg,hy],_,.inr ⟨dj,_,_,hb,rfl⟩,acQ true rfl,hr⟩
      |false=>exact .inr ⟨by simp[Region.wanted,hg,hy],UU (acQ true rfl) hr⟩
     ·subst hb1;cases Uu with
      |true=>exact .inr ⟨by simp[Region.wanted,hg,hy],UU (acQ false rfl) hr⟩
      |false=>exact .inl ⟨by simp[Region.wanted,hg,hy],_,.inr ⟨dj,_,_,hb,rfl⟩,acQ false rfl,hr⟩
    ·rename_i hb;rw[hb]at Q3;obtain⟨vs,hv,hvs⟩:=Q3;have hv:a.tmps.getD dj undef=.tuple vs:=hv;rw[hv]at hy;exact .inr ⟨by simp[Region.wanted,hg,hy],UU h hr⟩
    ·cases hr
   ·cases hr
  ·cases hr
theorem YV {ops:Array Oper}{M:Array Bool}:∀{l:List Nat} {j:Nat} {o:Oper},Uv P C ops M st l=some (j,o)->j∈l/\ops[j]?=some o/\pZ P o=true/\Region.free .any ops M j=true/\((I9 st o=true\/aBJ ops.toList st o=true)\/(acu P C ops M j=true\/atN P C ops M st j o=true))
 |[],_,_,h=>by simp[Uv]at h
 |i::l,j,o,h=>by
  simp only[Uv]at h;split at h
  ·rename_i o' ho';split at h
   ·rename_i hc;cases h;simp only[aJ,mn]at hc;exact⟨by simp,ho',hc.1.1,hc.1.2,hc.2.elim (fun h=>h.elim (fun h=>h.elim (fun h=>.inl (.inl h)) fun h=>.inr (.inl h)) fun h=>.inl (.inr h)) fun h=>.inr (.inr h)⟩
   ·obtain⟨h1,h2⟩:=YV h;exact⟨by simp[h1],h2⟩
  ·cases h
theorem YW {ops:Array Oper}{M:Array Bool}:∀{l:List Nat} {j:Nat} {o:Oper},Uw P ops M st l=some (j,o)->j∈l/\ops[j]?=some o/\aE4 j (Region.ready .any ops (x6 P ops j (List.range ops.size) M))=true/\awC P ops M st (List.range ops.size)=true
 |[],_,_,h=>by simp[Uw]at h
 |i::l,j,o,h=>by
  simp only[Uw]at h;split at h
  ·rename_i o' ho';split at h
   ·rename_i hc;cases h;rw[aJ]at hc;exact⟨by simp,ho',hc.1,hc.2⟩
   ·obtain⟨h1,h2⟩:=YW h;exact⟨by simp[h1],h2⟩
  ·cases h
theorem amN {ops:Array Oper}{M:Array Bool}:∀{l:List Nat},awC P ops M st l=true->∀i∈l,∀o,ops[i]?=some o->dn P o=true->M.getD i true=false->waits P ops M o=true\/Lw P st o=true
 |[],_,i,h=>by cases h
 |j::l,h,i,hi=>by
  simp only[awC,aJ]at h;intro o ho hf hM;rcases gS.1 hi with rfl|hi
  ·have:=h.1;rw[ho]at this;simpa [hf,hM]using this
  ·exact amN h.2 i hi o ho hf hM
theorem az4 {ops:Array Oper}{M:Array Bool}(h:waits P ops M o=true):∃e∈o.after,Region.binds .any e=true/\∃oe,ops[e.on]?=some oe/\dn P oe=false/\M.getD e.on true=false:=by
 unfold waits at h;obtain⟨e,he,hb⟩:=atD.1 h;rw[aJ]at hb;refine⟨e,he,hb.1,?_⟩;have h2:=hb.2;split at h2
 ·rename_i oe hoe;rw[aJ]at h2;exact⟨oe,hoe,by simpa using h2.1,by simpa using h2.2⟩
 ·cases h2
theorem asx {x:Nat}:∀{l:List Nat},aE4 x l=true->∀i∈l,i=x
 |[],_,i,h=>by cases h
 |j::l,h,i,hi=>by
  simp only[aE4,aJ]at h;rcases gS.1 hi with rfl|hi
  ·exact aP h.1
  ·exact asx h.2 i hi
theorem yb {ops:Array Oper}{x:Nat}:∀(is:List Nat) {l:Array Bool} {i:Nat},l.getD i false=true->(x6 P ops x is l).getD i false=true
 |[],_,_,h=>h
 |j::is,l,i,h=>by
  unfold x6;split
  ·split
   ·exact yb is (getD_set_true h)
   ·exact yb is h
  ·exact yb is h
theorem Cw {ops:Array Oper}{x y:Nat}{o:Oper}(ho:ops[y]?=some o)(hf:dn P o=true)(hxy:y≠x):∀(is:List Nat) {l:Array Bool},y<l.size->y∈is->(x6 P ops x is l).getD y false=true
 |[],_,_,h=>by cases h
 |j::is,l,hl,h=>by
  have hb:Nat.beq y x=false:=by
   cases hb:Nat.beq y x with
   |true=>exact absurd (aP hb) hxy
   |false=>rfl
  unfold x6;rcases gS.1 h with rfl|h
  ·rw[ho];simp only[hf,hb,eX,Bool.and_self];exact yb is (by simp[OB,hl])
  ·split
   ·split
    ·exact Cw ho hf hxy is (by simpa using hl) h
    ·exact Cw ho hf hxy is hl h
   ·exact Cw ho hf hxy is hl h
theorem Cx {ops:Array Oper}{x y:Nat}{o:Oper}(ho:ops[y]?=some o)(hf:dn P o=false\/y=x):∀(is:List Nat) {l:Array Bool},(x6 P ops x is l).getD y true=l.getD y true
 |[],_=>rfl
 |j::is,l=>by
  unfold x6;split
  ·rename_i o' ho';split
   ·rename_i hc;rw[Cx ho hf is];refine getD_set_ne true ?_;rintro rfl;rw[ho]at ho';cases ho';rw[aJ]at hc;rcases hf with hf|rfl
    ·rw[hf]at hc;cases hc.1
    ·simp at hc
   ·exact Cx ho hf is
  ·exact Cx ho hf is
theorem UW {ops:Array Oper}{M:Array Bool}:∀{l:List Nat},IK P ops M l=true->∀i∈l,∀o,ops[i]?=some o->dn P o=true->M.getD i true=true
 |[],_,i,h=>by cases h
 |j::l,h,i,hi=>by
  simp only[IK,aJ]at h;intro o ho hf;rcases gS.1 hi with rfl|hi
  ·have:=h.1;rw[ho]at this;simpa [hf]using this
  ·exact UW h.2 i hi o ho hf
theorem aid {ops:Array Oper}{M:Array Bool}:∀{l:List Nat} {st:St},(∀i∈l,∀o,ops[i]?=some o->dn P o=true->M.getD i true=true)->tT P ops M l st=st
 |[],_,_=>rfl
 |i::l,st,h=>by
  have ih:=aid (st:=st) fun j hj=>h j (tI _ hj)
  unfold tT;split
  ·rename_i o ho;split
   ·rename_i hc _;rw[aJ]at hc;have:=h i OD o ho hc.1;rw[this]at hc;cases hc.2
   ·exact ih
  ·exact ih
theorem aqG {ops:Array Oper}{M:Array Bool}{i:Nat}(h:acu P C ops M i=true){c:Nat}{oc:Oper}(hc:ops[c]?=some oc)(hl:qP P C ops oc=false):M.getD c true=true\/oZ ops M i 3 oc=true:=by unfold acu at h;rw[iJ]at h;have:=h c (jC.2 (AS.1 hc).1);rw[hc]at this;simpa only[hl,I6,mn]using this
theorem YX {ops:Array Oper}{M:Array Bool}{i n:Nat}(h:oZ ops M i (n+1) o=true):∃e∈o.after,Region.binds .any e=true/\(e.on=i\/(M.getD e.on true=false/\∃oe,ops[e.on]?=some oe/\oZ ops M i n oe=true)):=by
 unfold oZ at h;obtain⟨e,he,hb⟩:=atD.1 h;rw[aJ,mn]at hb;refine⟨e,he,hb.1,?_⟩;rcases hb.2 with h1|h1
 ·exact .inl (by simpa using h1)
 ·rw[aJ]at h1;refine .inr ⟨by simpa using h1.1,?_⟩;have h2:=h1.2;split at h2
  ·exact⟨_,by assumption,h2⟩
  ·cases h2
theorem aie {ops:Array Oper}{M R:Array Bool}{i:Nat}(hR:∀d od,ops[d]?=some od->M.getD d true=false->R.getD d false=true->∀e∈od.after,Region.binds .any e=true->R.getD e.on false=true)(hi:R.getD i false=false) :
  ∀(n d:Nat) (od:Oper),ops[d]?=some od->M.getD d true=false->R.getD d false=true->oZ ops M i n od=true->False
 |0,_,_,_,_,_,h=>by simp[oZ]at h
 |n+1,d,od,ho,hM,hRd,h=>by
  obtain⟨e,he,hb,h1⟩:=YX h;have h2:=hR d od ho hM hRd e he hb;rcases h1 with h1|⟨h1,oe,hoe,hw⟩
  ·rw[h1,hi]at h2;cases h2
  ·exact aie hR hi n e.on oe hoe h1 h2 hw
theorem Rb {ops:Array Oper}{M R l:Array Bool}{i:Nat}(hR:∀d od,ops[d]?=some od->M.getD d true=false->R.getD d false=true->∀e∈od.after,Region.binds .any e=true->R.getD e.on false=true)(hi:R.getD i false=false)(hs:Sup ops R l)(hl:l.getD i false=false) :
  ∀(n c:Nat) (oc:Oper),ops[c]?=some oc->R.getD c false=false->l.getD c false=true->oZ ops M i n oc=true->False
 |0,_,_,_,_,_,h=>by simp[oZ]at h
 |n+1,c,oc,ho,hRc,Oz,h=>by
  obtain⟨e,he,hb,h1⟩:=YX h;have h2:=hs.2.2 c oc ho hRc Oz e he hb;rcases h1 with h1|⟨h1,oe,hoe,hw⟩
  ·rw[h1,hl]at h2;cases h2
  ·cases hx:R.getD e.on false with
   |true=>exact aie hR hi n e.on oe hoe h1 hx hw
   |false=>exact Rb hR hi hs hl n e.on oe hoe hx h2 hw
theorem yc {ops:Array Oper}{nt:Nat}(h:rU P ops nt=true){x:Nat}{o:Oper}(ho:ops[x]?=some o)(hf:dn P o=true){d:Tmp}(hd:o.dst=some d):d<nt/\∀y o',ops[y]?=some o'->y≠x->o'.dst≠some d:=by
 unfold rU at h;rw[aJ]at h
 replace h:=h.2
 rw[iJ]at h;have:=h x (jC.2 (AS.1 ho).1);rw[ho]at this;simp only[hf,aL,I6,aJ,hd]at this;refine⟨il this.1,fun y o' ho' hne hd'=>?_⟩;have h2:=this.2;rw[iJ]at h2;have:=h2 y (jC.2 (AS.1 ho').1);rw[ho']at this;simp only[hd']at this;have hb:Nat.beq y x=false:=by
  cases hb:Nat.beq y x with
  |true=>exact absurd (aP hb) hne
  |false=>rfl
 rw[hb]at this;simp[ar7]at this
theorem Sh {ops:Array Oper}{nt:Nat}(h:rU P ops nt=true){x:Nat}{o:Oper}(ho:ops[x]?=some o)(hf:dn P o=true){y:Nat}{o':Oper}(ho':ops[y]?=some o'){t:Tmp}(hd:o'.dst=some t)(hu:acs o t=true) :
  dn P o'=false/\∃e∈o.after,Region.binds .any e=true/\e.on=y:=by
 unfold rU at h;rw[aJ]at h
 replace h:=h.1
 unfold ame at h;rw[iJ]at h;have:=h x (jC.2 (AS.1 ho).1);rw[ho]at this;simp only[hf,aL,I6]at this;rw[iJ]at this;have:=this y (jC.2 (AS.1 ho').1);rw[ho']at this;simp only[hd,hu,aL,I6,aJ]at this;refine⟨by simpa using this.1,?_⟩;obtain⟨e,he,hb⟩:=atD.1 this.2;rw[aJ]at hb;exact⟨e,he,hb.1,aP hb.2⟩
def unl (R:Array Bool)(n:Nat):Nat:=(List.range n).countP fun i=> !R.getD i true
theorem asy {p q:Nat->Bool}{i:Nat}(hpq:∀x,q x=true->p x=true)(hp:p i=true)(hq:q i=false):∀{l:List Nat},i∈l->l.countP q<l.countP p
 |[],h=>by cases h
 |j::l,h=>by
  have hle:l.countP q<=l.countP p:=List.countP_mono_left fun x _ hx=>hpq x hx
  rcases gS.1 h with rfl|h
  ·rw[atF,atF,hp,hq];simp;omega
  ·have ih:=asy hpq hp hq h;rw[atF,atF];cases hqj:q j with
   |false=>simp;omega
   |true=>rw[hpq j hqj];simp;omega
theorem aB9 {R:Array Bool}{n i:Nat}(hi:i<n)(hR:R.size=n)(hu:R.getD i true=false):unl (R.setIfInBounds i true) n<unl R n:=by
 refine asy (i:=i) (fun x hx=>?_) (by simp[hu]) ?_ (jC.2 hi)
 ·by_cases hxi:i=x
  ·subst hxi;simp[hu]
  ·rw[getD_set_ne true hxi]at hx;exact hx
 ·have:(R.setIfInBounds i true).getD i true=true:=by simp[OB,aBF,hR,hi]
  simp[this]
theorem aCa {R:Array Bool}{n i:Nat}(hi:i<n)(hu:R.getD i true=false):0<unl R n :=
 List.countP_pos_iff.2 ⟨i,jC.2 hi,by simp[hu]⟩
structure Ly (P:Program) (C:FuncId->Option Any) (N:Nat) (ops:Array Oper) (hd0 hd1:Nat->Option (Bool×Obj)) (M R:Array Bool) (E:Nat->Option Nat) (a:Act):Prop where
 szM:M.size=ops.size
 szR:R.size=ops.size
 rel:∀i,R.getD i false=(M.getD i false || (E i).isSome)
 early:∀x g,E x=some g->M.getD x false=false/\∃o d obj,ops[x]?=some o/\dn P o=true/\o.dst=some d/\(aJl P C N o d/\amJ P o a obj/\∀e∈o.after,Region.binds .any e=true->R.getD e.on false=true)/\a.tmps.getD d undef=mkF o g/\hd1 g=some (true,obj)/\hd0 g=none
 inj:∀x y g,E x=some g->E y=some g->x=y
 z:∀x ox d,ops[x]?=some ox->G9 P ox=true->ox.dst=some d->R.getD x false=true->∃g,a.tmps.getD d undef=.slice (some ⟨g,0,none⟩) 0 0
 hd:∀g v,hd0 g=some v->hd1 g=some v
section
variable {ops:Array Oper} {hd0 hd1:Nat->Option (Bool×Obj)} {M R:Array Bool} {E:Nat->Option Nat}
theorem kT {l:Array Bool}{i:Nat}(h:l.getD i true=false):l.getD i false=false:=by
 rcases acn i l.size with h'|h'
 ·rw[<-Cv h'];exact h
 ·simp[Array.getElem?_eq_none h',OB]
theorem alJ {l:Array Bool}{i:Nat}(h:l.getD i false=false)(hi:i<l.size):l.getD i true=false:=by rw[Cv hi];exact h
theorem OP {l:Array Bool}{i:Nat}(hi:i<l.size):(l.setIfInBounds i true).getD i false=true:=by simp[OB,aBF,hi]
theorem Ly.ready (hE:Ly P C N ops hd0 hd1 M R E a){j:Nat}(hj:j∈Region.ready .any ops M)(hn:E j=none):j∈Region.ready .any ops R:=by
 obtain⟨h1,o,ho,nZ⟩:=mem_ready.1 hj;have hlt:j<ops.size:=(AS.1 ho).1;refine mem_ready.2 ⟨alJ ?_ (by rw[hE.szR];exact hlt),o,ho,fun e he hb=>?_⟩
 ·rw[hE.rel,kT h1,hn];rfl
 ·rw[hE.rel,nZ e he hb,al9]
theorem Ly.unM (hE:Ly P C N ops hd0 hd1 M R E a){j:Nat}(h:R.getD j true=false)(hlt:j<ops.size):M.getD j true=false/\E j=none:=by
 have h1:=kT h;rw[hE.rel]at h1;simp only[ahR]at h1;refine⟨alJ h1.1 (by rw[hE.szM];exact hlt),?_⟩;cases hx:E j with
 |none=>rfl
 |some g =>
  rw[hx]at h1;cases h1.2
theorem Ly.next (hE:Ly P C N ops hd0 hd1 M R E a){nt:Nat}(hfd:rU P ops nt=true){j:Nat}{o:Oper}(ho:ops[j]?=some o)(hn:E j=none)(hjR:R.getD j true=false){a':Act}(ha:∀t,o.dst≠some t->a'.tmps.getD t undef=a.tmps.getD t undef)
  (hz:G9 P o=true->∀d,o.dst=some d->∃g,a'.tmps.getD d undef=.slice (some ⟨g,0,none⟩) 0 0) :
  Ly P C N ops hd0 hd1 (M.setIfInBounds j true) (R.setIfInBounds j true) E a':=by
 have hlt:j<ops.size:=(AS.1 ho).1;refine⟨by simpa using hE.szM,by simpa using hE.szR,fun i=>?_,fun x g hx=>?_,hE.inj,fun x ox d hox hem hd hx=>?_,hE.hd⟩
 ·by_cases hij:j=i
  ·subst hij;rw[OP (by rw[hE.szR];exact hlt),OP (by rw[hE.szM];exact hlt)];rfl
  ·rw[getD_set_ne false hij,getD_set_ne false hij];exact hE.rel i
 ·obtain⟨h1,ox,d,obj,h2,h3,h4,h5,h6,h7,h8⟩:=hE.early x g hx;have hne:j≠x:=by rintro rfl;rw[hn]at hx;cases hx
  refine⟨by rw[getD_set_ne false hne];exact h1,ox,d,obj,h2,h3,h4,⟨h5.1,h5.2.1.same fun t ht=>ha t fun hdt=>?_,fun e he hb=>getD_set_true (h5.2.2 e he hb)⟩,?_,h7,h8⟩
  ·obtain⟨_,e,he,hb,hon⟩:=Sh hfd h2 h3 ho hdt ht;have:=h5.2.2 e he hb;rw[hon,kT hjR]at this;cases this
  rw[ha d ((yc hfd h2 h3 h4).2 j o ho hne)];exact h6
 ·by_cases hjx:j=x
  ·subst hjx;rw[ho]at hox;cases hox;exact hz hem d hd
  ·rw[ha d ((yc hfd hox (jF hem) hd).2 j o ho hjx)];rw[getD_set_ne false hjx]at hx;exact hE.z x ox d hox hem hd hx
theorem aFM (n x:Nat):(Array.replicate n false).getD x false=false:=by rw[OB,Array.getElem?_replicate];split<;>rfl
theorem az5 (a:Act)(o:Oper)(v:Value)(t:Tmp)(ht:o.dst≠some t):(a.put o.dst v).tmps.getD t undef=a.tmps.getD t undef:=by
 cases hd:o.dst with
 |none=>simp[Act.put]
 |some d=>exact n4 (fun e=>ht (by rw[hd,e])) v
theorem aH7 {ub:St}(h:ub=st\/∃dj b b',st.get dj=.v (.c (.bool b))/\ub=st.put dj (.v (.c (.bool b')))){x:Operand}{d off:Nat}(hp:st.ac x=.ptr d off):ub.ac x=.ptr d off:=by
 rcases h with rfl|⟨dj,b,b',hg,rfl⟩
 ·exact hp
 ·cases x with
  |tmp s =>
   by_cases hs:dj=s
   ·subst hs;simp only[St.ac,St.eP,St.ev,hg]at hp;cases hp
   ·have:(st.put dj (.v (.c (.bool b')))).ac (.tmp s)=st.ac (.tmp s):=by simp only[St.ac,St.eP,St.ev,St.get,St.put,aw,ah hs]
    rw[this];exact hp
  |_=>exact hp
theorem aun {k:St->Option α}(h:Inv w0 G st a w){t:TypeId}{x:Operand}(ho:o.op=.load t x){d aqy:Nat}(acx:st.ac x=.ptr d aqy)(hr:jD P C (rT.QY N) o st k=some r):amj P w0 G w d a o k r:=by
 simp only[jD,ho]at hr;split at hr
 ·rename_i l off hcell;split at hr
  ·rename_i hn;split at hr
   ·exact aBT h t x ho hcell hn (b:=true) (by assumption) (v:=.agg _) rfl acx hr
   ·split at hr
    ·rename_i nK _ y hq;exact aBT h t x ho hcell hn (b:=false) nK (v:=.c y) ⟨y,hq,rfl⟩ acx hr
    ·cases hr
   ·cases hr
  ·cases hr
 ·cases hr
theorem aw2 {M:Array Bool}{t:Tmp}(h:azD ops M t=true){j:Nat}{oj:Oper}(hj:ops[j]?=some oj)(hl:M.getD j true=false):oj.dst≠some t:=by have:=iJ.1 h j (jC.2 (AS.1 hj).1);rw[hj]at this;dsimp only at this;rw[hl,I6]at this;intro hd;rw[hd]at this;simp[ar7]at this
theorem aw3 {M:Array Bool}{i:Nat}(h:atN P C ops M st i o=true):∃t x b off,o.op=.load t x/\st.ac x=.ptr b off/\∀c oc,ops[c]?=some oc->qP P C ops oc=false->M.getD c true=true\/oZ ops M i 3 oc=true \/
  ∃tc bb,afo C oc=some tc/\st.get tc=.v (.c (.ptr bb 0))/\bb≠b/\azD ops M tc=true:=by
 unfold atN at h;split at h
 ·rename_i t x ho;split at h
  ·rename_i b off hp;refine⟨t,x,b,off,ho,hp,fun c oc hc hl=>?_⟩;have:=iJ.1 h c (jC.2 (AS.1 hc).1);rw[hc]at this;dsimp only at this;rw[hl,I6,mn,mn]at this;rcases this with (h1|h1)|h1
   ·exact .inl h1
   ·exact .inr (.inl h1)
   ·refine .inr (.inr ?_);split at h1
    ·rename_i tc htc;rw[aJ]at h1;obtain⟨h2,h3⟩:=h1;split at h2
     ·rename_i bb hbb;exact⟨tc,bb,htc,hbb,bI h2,h3⟩
     ·cases h2
    ·cases h1
  ·cases h
 ·cases h
theorem az6 {x:Option Tmp}{t:Tmp}(h:ar7 x (some t)=true):x=some t:=by
 cases x with
 |none=>cases h
 |some s=>rw[aP (show Nat.beq s t=true from h)]
theorem Ly.fresh (hE:Ly P C N ops hd0 hd1 M R E a){i:Nat}(hi:i∈Region.ready .any ops R)(ho:ops[i]?=some o)(t:Tmp)(ht:aaG o=some t)(hf:OG P ops o=true):∃g,a.tmps.getD t undef=.slice (some ⟨g,0,none⟩) 0 0:=by
 obtain⟨_,o',ho',nZ⟩:=mem_ready.1 hi;rw[ho]at ho';cases ho';unfold OG at hf;rw[ht]at hf;obtain⟨x,_,hx⟩:=List.any_eq_true.1 (show(List.range ops.size).any _=true from hf);split at hx
 ·rename_i ox hox;simp only[aJ]at hx;obtain⟨⟨h1,h2⟩,h3⟩:=hx;obtain⟨e,he,hb⟩:=atD.1 h3;rw[aJ]at hb;have hon:=aP hb.2;have:=nZ e he hb.1;rw[hon]at this;exact hE.z x ox t hox h1 (az6 h2) this
 ·cases hx
theorem Ly.dlt (_:Ly P C N ops hd0 hd1 M R E a){nt:Nat}(hfd:rU P ops nt=true)(hnt:a.tmps.size=nt){i:Nat}(ho:ops[i]?=some o)(d:Tmp)(hf:dn P o=true)(hd:o.dst=some d):d<a.tmps.size:=by rw[hnt];exact(yc hfd ho hf hd).1
theorem aw4 {ub:St}(h:ub=st\/∃dj b b',st.get dj=.v (.c (.bool b))/\ub=st.put dj (.v (.c (.bool b'))))(hro:I9 st o=true):I9 ub o=true:=by
 rcases h with rfl|⟨dj,b,b',hg,rfl⟩
 ·exact hro
 ·cases cr:o.op with
  |load t x =>
   simp only[I9,cr]at hro ⊢;cases x with
   |const _=>exact hro
   |tmp s =>
    by_cases hs:dj=s
    ·subst hs;simp only[St.ac,St.eP,St.ev,hg]at hro;cases hro
    ·have:(st.put dj (.v (.c (.bool b')))).ac (.tmp s)=st.ac (.tmp s):=by simp only[St.ac,St.eP,St.ev,St.get,St.put,aw,ah hs]
     rw[this];exact hro
   |_=>exact hro
  |convert _ _ _=>simp[I9,cr]at hro
  |_=>simp[I9,cr]
theorem az7 (h:Inv w0 G st a w)(hs:aBJ ops.toList st o=true):Region.wanted o (yielded ops a.tmps)=false:=by
 unfold aBJ at hs;split at hs
 ·cases hs
 ·rename_i j Uu hg;split at hs
  ·rename_i oj hoj;split at hs
   ·rename_i dj hdj;have hy:=Ra (tmps:=a.tmps) hoj hdj;have Q3:=h.ev (.tmp dj);rw[show st.ev (.tmp dj)=st.get dj from rfl]at Q3;split at hs
    ·rename_i hb;rw[hb]at Q3;rw[show a.tmps.getD dj undef=.bool true from Q3]at hy;simp[Region.wanted,hg,hy]
    ·rename_i hb;rw[hb]at Q3;rw[show a.tmps.getD dj undef=.bool false from Q3]at hy;simp[Region.wanted,hg,hy]
    ·rename_i hb;rw[hb]at Q3;obtain⟨vs,hv,hvs⟩:=Q3;have hv:a.tmps.getD dj undef=.tuple vs:=hv;rw[hv]at hy;simp[Region.wanted,hg,hy]
    ·cases hs
   ·cases hs
  ·cases hs
theorem aFN (hC:∀f con,C f=some con->Se P w0 f con){Q:Exit->Act->World->Prop}(hQ:∀c a a' w,Q (.panic c) a w->Q (.panic c) a' w)(hs:Region.noSelect ops=true){nt:Nat}(hfd:rU P ops nt=true){k:St->Option α}(hK:rW w0 k r (Q .normal)) :
  ∀(s m n:Nat),m+n=s->∀{M R:Array Bool} {E:Nat->Option Nat} {hd1:Nat->Option (Bool×Obj)} {G:Gh} {st:St} {a:Act} {w:World},unl R ops.size<=n->a.tmps.size=nt->Ly P C N ops w0.hd hd1 M R E a ->
   Inv {w0 with hd:=hd1} G (tT P ops M (List.range ops.size) st) a w->Ha P C (rT.QY N) ops m M st k=some r->N4 P ops Q (SI P C ops G w a R) n R a w:=by
 intro s
 induction s using Nat.strongRecOn with
 |ind s ih =>
 intro m n hmn M R E hd1 G st a w aKg hnt hE hI hr;have hlt:∀{i:Nat} {o:Oper},ops[i]?=some o->i<ops.size:=fun h=>(AS.1 h).1
 have aJn:Region.ready .any ops M=[]->ck (IK P ops M (List.range ops.size)) (k st)=some r->N4 P ops Q (SI P C ops G w a R) n R a w:=by
  intro kt hr;obtain⟨nZ,hr⟩:=aY hr;have hal:=fun i hi=>UW nZ i (jC.2 hi)
  have hEn:∀x,E x=none:=by
   intro x;cases hx:E x with
   |none=>rfl
   |some g =>
    obtain⟨h1,o,d,obj,h2,h3,_⟩:=hE.early x g hx;have:=hal x (hlt h2) o h2 h3;rw[alJ h1 (by rw[hE.szM];exact hlt h2)]at this;cases this
  rw[aid (fun i hi o ho hf=>hal i (jC.1 hi) o ho hf)]at hI;have hI0:Inv w0 G st a w:=⟨hI.nw,hI.rok,hI.below,hI.defers,hI.size,hI.sp,fun g b o hm=>hI.hd g b o (hE.hd g _ hm),hI.tm,hI.bx,hI.bl,hI.own⟩;refine aw0 (List.eq_nil_iff_forall_not_mem.2 fun i hi=>?_) (hK _ _ _ _ hI0 hr) n;obtain⟨h1,o,ho,asz⟩:=mem_ready.1 hi;have:i∈Region.ready .any ops M:=by refine mem_ready.2 ⟨(hE.unM h1 (hlt ho)).1,o,ho,fun e he hb=>?_⟩;have:=asz e he hb;rw[hE.rel,hEn]at this;simpa using this
  rw[kt]at this;cases this
 cases m with
 |zero =>
  simp only[Ha]at hr;split at hr
  ·rename_i kt;exact aJn kt hr
  ·cases hr
 |succ m =>
  have Xy:=hr;simp only[Ha]at hr;split at hr
  ·rename_i kt;exact aJn kt hr
  ·rename_i i0 rest kt;have hCF:=fun f con h=>hI.aL1 (hC f con h:Se P {w0 with hd:=hd1} f con)
   split at hr
   ·
    rename_i j o hp;obtain⟨h1,ho,aw5,aB7,Bq⟩:=YV hp;rw[<-kt]at h1;have hEj:E j=none:=by
     cases hx:E j with
     |none=>rfl
     |some g =>
      obtain⟨_,o',d,obj,h2,h3,_⟩:=hE.early j g hx;rw[ho]at h2;cases h2;rw[Jk aw5]at h3;cases h3
    have hjR:=hE.ready h1 hEj;have hun:=(mem_ready.1 hjR).1;have aKh:qP P C ops o=true:=by unfold qP;rw[aw5];rfl
    cases n with
    |zero=>exact absurd (aCa (hlt ho) hun) (by omega)
    |succ n =>
     have aL4:=aB9 (hlt ho) hE.szR hun;have fin:∀{v:Value} {G2:Gh} {st2:St},Inv hI.root G2 st2 (a.put o.dst v) w->Ha P C (rT.QY N) ops m (M.setIfInBounds j true) st2 k=some r->(∃S0:World->Prop,YieldsIf P ops S0 o v a/\∀l' w',Sup ops R l'->l'.getD j true=false->SI P C ops G w a R l' w'->S0 w') ->
       N4 P ops Q (SI P C ops G w a R) (n+1) R a w:=by
      intro v G2 st2 hi2 hr2 ⟨S0,hy,hS0⟩;obtain⟨hb1,hb2,hb3⟩:=hI.amL hi2;have hih:=ih (m+n) (by omega) m n rfl (M:=M.setIfInBounds j true) (R:=R.setIfInBounds j true) (by omega) (by rw[<-hnt];cases o.dst<;>simp[Act.put])
       (hE.next hfd ho hEj hun (a':=a.put o.dst v) (fun t ht=>by
        cases hd:o.dst with
        |none=>simp[Act.put]
        |some d=>exact n4 (fun e=>ht (by rw[hd,e])) v) fun hem=>absurd (jF hem) (by rw[Jk aw5];simp)) (qS _ hb1) hr2
      refine aul ho (Region.noSelect_spec hs) (fun c a w hq=>hQ c _ _ w hq) (fun l w'=>SI.set ho aKh l w') n R a w ?_ hjR hy hS0 (SI.refl R R) (xk n (fun l' w' hs' hS'=>?_) hih)
      ·intro j' oj' hj' hne hu aFu;exact Region.free_spec ho aB7 j' oj' hj' hne ((hE.unM hu (hlt hj')).1) aFu
      ·exact SI.step hE.szR ((SI.set ho aKh R w).2 (SI.refl R R)) (fun g hg ho=>(hb3 g hg ho).1) (fun t ht=>az5 a o v t (ht j o ho (kT hun))) (Sup.set hjR) hs' hS'
     rcases YU hI.from hr with ⟨hw,ub,aL5,hi,hr1⟩|⟨hw,G1,ub,hi,hr1⟩
     ·rcases Bq with (hro|aif)|(aN8|hbx)
      ·have aN9:I9 ub o=true:=aw4 aL5 hro;obtain⟨v,G2,st2,he,hi2,hr2⟩:=auk aw5 aN9 hi hr1;exact fin hi2 hr2 ⟨_,.inl ⟨hw,he⟩,fun l' w' _ _ hS'=>hS'.2.1⟩
      ·rw[az7 hI aif]at hw;cases hw
      ·obtain⟨v,G2,st2,he,hi2,hr2⟩:=aaV aw5 hi hr1;refine fin hi2 hr2 ⟨fun w'=>Below w.heap.size w w',.inl ⟨hw,fun w' hB=>he w' (x8 hB)⟩,fun l' w' aDM aKi hS'=>hS'.2.2.1 fun c oc hc Oz=>?_⟩;have l's:l'.size=ops.size:=aDM.1.symm.trans hE.szR;rw[Cv (by rw[l's];exact hlt hc),Cv (by rw[hE.szR];exact hlt hc)];rcases aqG aN8 hc Oz with aFO|hwf
       ·have hR:R.getD c false=true:=by rw[hE.rel,<-Cv (by rw[hE.szM];exact hlt hc),aFO,al9]
        rw[hR,aDM.2.1 c hR]
       ·cases hx:R.getD c false with
        |true=>rw[aDM.2.1 c hx]
        |false =>
         cases hy:l'.getD c false with
         |false=>rfl
         |true =>
          refine(Rb (R:=R) (i:=j) (fun d od hd hMd hRd e he hb=>?_) (kT hun) aDM (kT aKi) 3 c oc hc hx hy hwf).elim;rw[hE.rel,kT hMd,I6]at hRd;obtain⟨g,hg⟩:=mj.1 hRd;obtain⟨_,od',_,_,aFP,_,_,h5,_⟩:=hE.early d g hg;rw[hd]at aFP;cases aFP;exact h5.2.2 e he hb
      ·obtain⟨t,x,b,off,cr,acx,nZ⟩:=aw3 hbx;obtain⟨v,G2,st2,he,hi2,hr2⟩:=aun hi cr (aH7 aL5 acx) hr1;have hrel:=hI.ac x;rw[acx]at hrel;obtain⟨aL7,_⟩:=hrel;obtain⟨lb,hlb⟩:=mj.1 aL7;obtain⟨_,_,_,aJo,_⟩:=hI.bx b lb hlb;have aJV:=(hI.own _ _ aJo).2.1;refine fin hi2 hr2 ⟨fun w'=>w'.heap[G.hb b]?=w.heap[G.hb b]?,.inl ⟨hw,he⟩,fun l' w' aDM aKi hS'=>hS'.2.2.2 (G.hb b) aJV fun c oc hc Oz hcR hcl=>?_⟩;rcases nZ c oc hc Oz with aFO|hwf|⟨tc,bb,htc,hbb,hne,aOc⟩
       ·have:R.getD c false=true:=by rw[hE.rel,<-Cv (by rw[hE.szM];exact hlt hc),aFO,al9]
        rw[this]at hcR;cases hcR
       ·refine(Rb (R:=R) (i:=j) (fun d od hd hMd hRd e he hb=>?_) (kT hun) aDM (kT aKi) 3 c oc hc hcR hcl hwf).elim;rw[hE.rel,kT hMd,I6]at hRd;obtain⟨g,hg⟩:=mj.1 hRd;obtain⟨_,od',_,_,aFP,_,_,h5,_⟩:=hE.early d g hg;rw[hd]at aFP;cases aFP;exact h5.2.2 e he hb
       ·have aL8:=hI.ev (.tmp tc);rw[show(tT P ops M (List.range ops.size) st).ev (.tmp tc)=(tT P ops M (List.range ops.size) st).get tc from rfl,hbb]at aL8;obtain⟨aKj,hvt⟩:=(show _/\_ from aL8);obtain⟨lb2,aOd⟩:=mj.1 aKj;obtain⟨_,_,_,aFQ,_⟩:=hI.bx bb lb2 aOd;refine⟨tc,G.hb bb,htc,fun j' oj' hj' hl'=>aw2 aOc hj' ((hE.unM (alJ hl' (by rw[hE.szR];exact hlt hj')) (hlt hj')).1),hvt,fun e=>hne ?_⟩;rw[e,aJo]at aFQ;injection aFQ with e2
        injection e2 with e2
        exact e2.symm
     ·exact fin hi hr1 ⟨fun _=>True,.inr ⟨hw,rfl⟩,fun _ _ _ _ _=>trivial⟩
   ·rename_i hpn;split at hr
    ·
     rename_i x o hx;obtain⟨h1,ho,nZ,hkn⟩:=YW hx;rw[<-kt]at h1;cases hEx:E x with
     |some g =>
      obtain⟨h2,o',d,obj,ho',UF,UA,⟨aFR,amK,_⟩,htm,hh1,hh0⟩:=hE.early x g hEx;rw[ho]at ho';cases ho';obtain⟨_,_,az8,_,_⟩:=Q9 (C:=C) (N:=N) UF;have hr1:jD P C (rT.QY N) o (tT P ops M (List.range ops.size) st) (fun st=>Ha P C (rT.QY N) ops m (M.setIfInBounds x true) st k)=some r:=by unfold acr at hr;rw[az8]at hr;exact hr
      obtain⟨hg1,hg2,hg3⟩:=hI.hd g true obj hh1;have hI2:Inv {w0 with hd:=fun g'=>if g'=g then none else hd1 g'} G (tT P ops M (List.range ops.size) st) a w :=
       ⟨hI.nw,hI.rok,hI.below,hI.defers,hI.size,hI.sp,fun g' b o' hm=>hI.hd g' b o' (by
        dsimp only at hm;split at hm
        ·cases hm
        ·exact hm),hI.tm,hI.bx,hI.bl,hI.own⟩
      obtain⟨G1,ub,hi1,hr2,aOf⟩:=aFR hI2 hg1 (by simp) hg3 amK htm hr1;have hE':Ly P C N ops w0.hd (fun g'=>if g'=g then none else hd1 g') (M.setIfInBounds x true) R (fun y=>if y=x then none else E y) a:=by
       refine⟨by simpa using hE.szM,hE.szR,fun i=>?_,fun y g' hy=>?_,fun y z g' hy hz=>?_,fun y ox d' hox hem hd' hRx=>?_,fun g' v hv=>?_⟩
       ·by_cases hix:i=x
        ·subst hix;rw[OP (by rw[hE.szM];exact hlt ho),hE.rel,hEx];simp
        ·rw[getD_set_ne false (Ne.symm hix),hE.rel,ah hix]
       ·by_cases hyx:y=x
        ·rw[ak hyx]at hy;cases hy
        ·rw[ah hyx]at hy;obtain⟨q1,oy,dy,aKm,q2,q3,q4,q5,q6,q7,q8⟩:=hE.early y g' hy;refine⟨by rw[getD_set_ne false (Ne.symm hyx)];exact q1,oy,dy,aKm,q2,q3,q4,q5,q6,?_,q8⟩;have:g'≠g:=by rintro rfl;exact hyx (hE.inj y x g' hy hEx)
         rw[ah this];exact q7
       ·split at hy
        ·cases hy
        ·split at hz
         ·cases hz
         ·exact hE.inj y z g' hy hz
       ·exact hE.z y ox d' hox hem hd' hRx
       ·have:g'≠g:=by rintro rfl;rw[hh0]at hv;cases hv
        rw[ah this];exact hE.hd g' v hv
      have hih:=ih (m+n) (by omega) m n rfl (M:=M.setIfInBounds x true) (R:=R) aKg hnt hE' (qS _ hi1) hr2;exact xk n (fun l' w' _ hS'=>⟨hS'.1,fun g' hg' ho'=>hS'.2.1 g' hg' (aOf g' ho'),hS'.2.2⟩) hih
     |none =>
      have hxR:=hE.ready h1 hEx;have hun:=(mem_ready.1 hxR).1;cases n with
      |zero=>exact absurd (aCa (hlt ho) hun) (by omega)
      |succ n =>
       have aFS:∀{w':World},w.heap.size<=w'.heap.size->(∀g,g<w.heap.size->G.own g=none->w'.heap[g]?=w.heap[g]?)->∀{i:Nat} {oi:Oper},ops[i]?=some oi->i∈Region.ready .any ops R->(qP P C ops oi=true->Below w.heap.size w w')->aum C oi a w w'->SI P C ops G w a R (R.setIfInBounds i true) w':=by
        intro w' h1 h2 i oi hoi hi h3 h4;refine⟨h1,h2,fun hm=>?_,fun k hk hm=>?_⟩
        ·cases hl:qP P C ops oi with
         |true=>exact h3 hl
         |false =>
          have:=hm i oi hoi hl;rw[Cv (by simp[hE.szR,hlt hoi]),OP (by rw[hE.szR];exact hlt hoi),(mem_ready.1 hi).1]at this;cases this
        ·cases hl:qP P C ops oi with
         |true=>exact(h3 hl).block k hk
         |false =>
          obtain⟨t,g,e1,_,e3,e4⟩:=hm i oi hoi hl (kT (mem_ready.1 hi).1) (OP (by rw[hE.szR];exact hlt hoi));exact h4 t g k e1 e3 hk (Ne.symm e4)
       refine⟨fun h0=>by(rw[h0]at hxR;cases hxR),fun i hi=>?_⟩;obtain⟨aH9,oi,hoi,asz⟩:=mem_ready.1 hi;have aL4:=aB9 (hlt hoi) hE.szR aH9;by_cases hix:i=x
       ·subst hix;rw[ho]at hoi;cases hoi;unfold Go.wpOp;simp only[ho];rcases YU hI.from hr with ⟨hw,ub,_,hi1,hr1⟩|⟨hw,G1,ub,hi1,hr1⟩
        ·rw[hw];simp only[ig];refine .inl (Oper.wp_mono (fun a' w' h'=>?_) (az3 hCF hi1 hr1 (hE.fresh hi ho) (hE.dlt hfd hnt ho)));obtain⟨⟨⟨⟨G2,st2,hi2,hr2⟩,aOi⟩,aL9⟩,hsz,htm⟩:=h';obtain⟨hb1,hb2,hb3⟩:=hI.amL hi2;have hS1:=aFS hb2 (fun g hg ho=>(hb3 g hg ho).2) ho hi aOi aL9.2;have hih:=ih (m+n) (by omega) m n rfl (M:=M.setIfInBounds i true) (R:=R.setIfInBounds i true) (by omega) (hsz.trans hnt) (hE.next hfd ho hEx hun htm aL9.1) (qS _ hb1) hr2;exact⟨hS1,xk n (fun l' w'' hs' hS'=>SI.step hE.szR hS1 (fun g hg ho=>(hb3 g hg ho).1) (fun t ht=>htm t (ht i o ho (kT hun))) (Sup.set hi) hs' hS') hih⟩
        ·rw[hw];simp only[ar3,gT];obtain⟨hb1,hb2,hb3⟩:=hI.amL hi1;have hS1:=aFS (cp _) (fun g hg ho=>rfl) ho hi (fun _=>Below.refl _ w) (.below (Below.refl _ w));have hih:=ih (m+n) (by omega) m n rfl (M:=M.setIfInBounds i true) (R:=R.setIfInBounds i true) (by omega) (by rw[<-hnt];cases o.dst<;>simp[Act.put])
          (hE.next hfd ho hEx hun (a':=a.put o.dst undef) (fun t ht=>by
           cases hd:o.dst with
           |none=>simp[Act.put]
           |some d=>exact n4 (fun e=>ht (by rw[hd,e])) undef) fun hem=>by obtain⟨_,_,hgd,_⟩:=Q9 (C:=C) (N:=N) (jF hem);simp[Region.wanted,hgd]at hw) (qS _ hb1) hr1
         exact⟨hS1,xk n (fun l' w'' hs' hS'=>SI.step hE.szR hS1 (fun g hg ho=>(hb3 g hg ho).1) (fun t ht=>az5 a o undef t (ht i o ho (kT hun))) (Sup.set hi) hs' hS') hih⟩
       ·
        obtain⟨hiM,hEi⟩:=hE.unM aH9 (hlt hoi);have UF:dn P oi=true:=by
         cases UF:dn P oi with
         |true=>rfl
         |false =>
          refine absurd (asx nZ i (mem_ready.2 ⟨?_,oi,hoi,fun e he hb=>?_⟩)) hix
          ·rw[Cx hoi (.inl UF)];exact hiM
          ·have:=asz e he hb;rw[hE.rel,mn]at this;rcases this with hM|hEe
           ·exact yb _ hM
           ·obtain⟨g,hg⟩:=mj.1 hEe;obtain⟨_,oe,_,_,hoe,hfe,_⟩:=hE.early e.on g hg;refine Cw hoe hfe (fun e'=>?_) _ (by rw[hE.szM];exact hlt hoe) (jC.2 (hlt hoe));rw[e',hEx]at hg;cases hg
        obtain⟨d,hd,az8,Jf,aFR⟩:=Q9 (C:=C) (N:=N) UF;have hpk:Lw P (tT P ops M (List.range ops.size) st) oi=true:=by
         rcases amN hkn i (jC.2 (hlt hoi)) oi hoi UF hiM with hw|hk
         ·exfalso;obtain⟨e,he,hb,oe,hoe,hfe,hMe⟩:=az4 hw;have:=asz e he hb;rw[hE.rel,kT hMe,I6]at this;obtain⟨g,hg⟩:=mj.1 this;obtain⟨_,oe',_,_,aMb,aMc,_⟩:=hE.early e.on g hg;rw[hoe]at aMb;cases aMb;rw[hfe]at aMc;cases aMc
         ·exact hk
        obtain⟨obj,Jf,amK⟩:=Jf hI hpk;have aJq:∀(y:Nat) (oy:Oper),ops[y]?=some oy->dn P oy=true->(∀e∈oy.after,Region.binds .any e=true->R.getD e.on false=true)->acs oy d=true->False:=by intro y oy hoy hfy hdy hu;obtain⟨_,e,he,hb,hon⟩:=Sh hfd hoy hfy hoi hd hu;have:=hdy e he hb;rw[hon,kT aH9]at this;cases this
        obtain⟨aOj,aMd⟩:=yc hfd hoi UF hd;have aKh:qP P C ops oi=true:=by unfold qP;rw[UF];simp
        unfold Go.wpOp;simp only[hoi];rw[show Region.wanted oi (yielded ops a.tmps)=true by simp[Region.wanted,az8]];simp only[ig];refine .inl (Jb Jf ?_);have hB:Below w.heap.size w (w.alloc obj):=⟨rfl,rfl,rfl,by simp,fun k hk=>Below.heap_alloc _ _ _ hk⟩;have hS1:=aFS hB.size (fun g hg _=>hB.block g hg) hoi hi (fun _=>hB) (.below hB);have hI2:=(hI.aN4 obj).aN3 (aib hoi UF hiM hd _ st (jC.2 (hlt hoi))) (mkF oi w.heap.size);have hsz:(a.put oi.dst (mkF oi w.heap.size)).tmps.size=nt:=by rw[hd,<-hnt];simp[Act.put]
        have aIa:(a.put oi.dst (mkF oi w.heap.size)).tmps.getD d undef=mkF oi w.heap.size:=by rw[hd];simp[Act.put,OB,hnt,aOj]
        have hE':Ly P C N ops w0.hd (fun g=>if g=w.heap.size then some (true,obj) else hd1 g) M (R.setIfInBounds i true) (fun y=>if y=i then some w.heap.size else E y) (a.put oi.dst (mkF oi w.heap.size)):=by
         refine⟨hE.szM,by simpa using hE.szR,fun y=>?_,fun y g hy=>?_,fun y z g hy hz=>?_,fun y oy d' hoy hem hd' hRy=>?_,fun g v hv=>?_⟩
         ·by_cases hyi:y=i
          ·subst hyi;rw[OP (by rw[hE.szR];exact hlt hoi),ak rfl];simp
          ·rw[getD_set_ne false (Ne.symm hyi),hE.rel,ah hyi]
         ·by_cases hyi:y=i
          ·rw[ak hyi]at hy;cases hy;subst hyi;refine⟨kT hiM,oi,d,obj,hoi,UF,hd,⟨aFR,amK.same fun t ht=>?_,fun e he hb=>getD_set_true (asz e he hb)⟩,aIa,by simp,?_⟩
           ·rw[hd];exact n4 (fun e=>aJq y oi hoi UF asz (by rw[<-e];exact ht)) _
           cases hz:w0.hd w.heap.size with
           |none=>rfl
           |some v =>
            obtain⟨b,ob⟩:=v;have:=(hI.hd _ _ _ (hE.hd _ _ hz)).2.1;omega
          ·rw[ah hyi]at hy;obtain⟨q1,oy,dy,aKm,q2,q3,q4,q5,q6,q7,q8⟩:=hE.early y g hy;refine⟨q1,oy,dy,aKm,q2,q3,q4,⟨q5.1,q5.2.1.same fun t ht=>?_,fun e he hb=>getD_set_true (q5.2.2 e he hb)⟩,?_,?_,q8⟩
           ·rw[hd];exact n4 (fun e=>aJq y oy q2 q3 q5.2.2 (by rw[<-e];exact ht)) _
           ·have hne:dy≠d:=fun e=>aMd y oy q2 hyi (by rw[q4,e])
            rw[hd,n4 hne];exact q6
           ·have:g≠w.heap.size:=Nat.ne_of_lt (hI.hd _ _ _ q7).2.1;rw[ah this];exact q7
         ·by_cases hyi:y=i
          ·rw[ak hyi]at hy;cases hy;by_cases hzi:z=i
           ·rw[hyi,hzi]
           ·rw[ah hzi]at hz;obtain⟨_,_,_,_,_,_,_,_,_,q7,_⟩:=hE.early z _ hz;exact absurd (hI.hd _ _ _ q7).2.1 (Uq _)
          ·rw[ah hyi]at hy;by_cases hzi:z=i
           ·rw[ak hzi]at hz;cases hz;obtain⟨_,_,_,_,_,_,_,_,_,q7,_⟩:=hE.early y _ hy;exact absurd (hI.hd _ _ _ q7).2.1 (Uq _)
           ·rw[ah hzi]at hz;exact hE.inj y z g hy hz
         ·by_cases hyi:y=i
          ·subst hyi;rw[hoi]at hoy;cases hoy;rw[hd]at hd';cases hd';exact⟨_,aIa.trans (amM hem _)⟩
          ·rw[getD_set_ne false (Ne.symm hyi)]at hRy;have hne:d'≠d:=fun e=>aMd y oy hoy hyi (by rw[hd',e])
           rw[hd,n4 hne];exact hE.z y oy d' hoy hem hd' hRy
         ·obtain⟨b,ob⟩:=v;have hv1:=hE.hd g _ hv;have:g≠w.heap.size:=Nat.ne_of_lt (hI.hd _ _ _ hv1).2.1;rw[ah this];exact hv1
        have hih:=ih (m+1+n) (by omega) (m+1) n rfl (M:=M) (R:=R.setIfInBounds i true) (by omega) hsz hE' (by rw[hd]at *;exact hI2) Xy;refine⟨hS1,xk n (fun l' w'' hs' hS'=>SI.step hE.szR hS1 (fun g hg ho=>?_) (fun t ht=>az5 a oi _ t (ht i oi hoi (kT aH9))) (Sup.set hi) hs' hS') hih⟩;show(if g=w.heap.size then some Key.hid else G.own g)=none;rw[ah (Nat.ne_of_lt hg)];exact ho
    ·cases hr
theorem aqH (hC:∀f con,C f=some con->Se P w0 f con){Q:Exit->Act->World->Prop}(hQ:∀c a a' w,Q (.panic c) a w->Q (.panic c) a' w)(hs:Region.noSelect ops=true)(hfd:rU P ops st.nt=true){k:St->Option α}(hK:rW w0 k r (Q .normal))
  (h:Inv w0 G st a w) (hr:Ha P C (rT.QY N) ops ops.size (Array.replicate ops.size false) st k=some r):wpAny P .any ops Q ops.size (Array.replicate ops.size false) a w:=by
 refine amI _ _ _ _ (aFN (hd1:=w0.hd) (E:=fun _=>none) hC hQ hs hfd hK _ _ _ rfl ?_ h.size ⟨by simp,by simp,fun i=>(by simp),fun x g hx=>(by cases hx),fun x y g hx=>(by cases hx),fun x ox d _ _ _ hx=>absurd hx (by rw[aFM];simp),fun _ _ h=>h⟩ (qS _ h) hr);refine cN List.countP_le_length ?_;simp
end
end
end Go.Am
