/- No condition. -/
import Derived.Test.YtfapcfpkbahneaaGreatDoorQpAmDraw
import Derived.Test.YtfapcfpkbahneaaGreatDoorQpAmKeep
import Derived.OrdersHeld
set_option linter.all false
namespace Go.Am
open Go.RowKit
section
variable {N:Nat} {P:Program} {C:FuncId->Option Any} {w0:fR} {w:World} {G:Gh} {st:St} {a:Act} {U:Type} {r:U} {o:Oper}
def Sup (ops:Array Oper)(l l':Array Bool):Prop :=
 l.size=l'.size/\(∀i,l.getD i false=true->l'.getD i false=true) /\
  ∀i o,ops[i]?=some o->l.getD i false=false->l'.getD i false=true->∀e∈o.after,Region.binds .any e=true->l'.getD e.on false=true
def Sup.refl (ops:Array Oper)(l:Array Bool):Sup ops l l:=⟨rfl,fun _ h=>h,fun _ _ _ h h'=>by rw[h]at h';cases h'⟩
def Sup.trans {ops:Array Oper}{a b c:Array Bool}(h:Sup ops a b)(k:Sup ops b c):Sup ops a c :=
 ⟨h.1.trans k.1,fun i hi=>k.2.1 i (h.2.1 i hi),fun i o ho h1 h2 e he hb=>by
  cases hx:b.getD i false with
  |true=>exact k.2.1 _ (h.2.2 i o ho h1 hx e he hb)|false=>exact k.2.2 i o ho hx h2 e he hb⟩
def Sup.set {ops:Array Oper}{l:Array Bool}{i:Nat}(hi:i∈Region.ready .any ops l):Sup ops l (l.setIfInBounds i true):=by
 refine⟨by simp,fun _ h=>getD_set_true h,fun j o ho h1 h2 e he hb=>?_⟩;by_cases hij:i=j
 .subst hij;obtain⟨_,o',ho',mr⟩:=mem_ready.1 hi;rw[ho]at ho';cases ho';exact getD_set_true (mr e he hb)
 .rw[getD_set_ne false hij,h1]at h2;cases h2
def CQ {l:Array Bool}{i:Nat}(h:i<l.size):l.getD i true=l.getD i false:=by simp[OP,h]
def Om (P:Program)(ops:Array Oper)(Q:Exit->Act->World->Prop)(S:Array Bool->World->Prop):Nat->Array Bool->Act->World->Prop
 |0,l,a,w=>Region.ready .any ops l=[]/\Q .normal a w
 |n+1,l,a,w =>
  (Region.ready .any ops l=[]->Q .normal a w) /\
  ∀i∈Region.ready .any ops l,wpOp P ops Q i (fun a' w'=>S (l.setIfInBounds i true) w'/\Om P ops Q S n (l.setIfInBounds i true) a' w') a w
def anu {ops:Array Oper}{Q:Exit->Act->World->Prop}{S:Array Bool->World->Prop}:∀(n:Nat) (l:Array Bool) (a:Act) (w:World),Om P ops Q S n l a w->wpAny P .any ops Q n l a w
 |0,_,_,_,h=>h|n+1,_,_,_,h=>⟨h.1,fun i hi=>wpOp_mono (fun a' w' h'=>anu n _ a' w' h'.2) (h.2 i hi)⟩
def xP {ops:Array Oper}{Q:Exit->Act->World->Prop}{S S':Array Bool->World->Prop}:∀(n:Nat) {l:Array Bool} {a:Act} {w:World},(∀l' w',Sup ops l l'->S' l' w'->S l' w')->Om P ops Q S' n l a w->Om P ops Q S n l a w
 |0,_,_,_,_,h=>h|n+1,l,_,_,hS,h=>⟨h.1,fun i hi=>wpOp_mono (fun a' w' h'=>⟨hS _ _ (Sup.set hi) h'.1,xP n (fun l' w' hs=>hS l' w' ((Sup.set hi).trans hs)) h'.2⟩) (h.2 i hi)⟩
def ayh {ops:Array Oper}{Q:Exit->Act->World->Prop}{S:Array Bool->World->Prop}{l:Array Bool}{a:Act}{w:World}(hr:Region.ready .any ops l=[])(h:Q .normal a w):∀n,Om P ops Q S n l a w
 |0=>⟨hr,h⟩|_+1=>⟨fun _=>h,by rw[hr];simp⟩
def avz {ops:Array Oper}{Q:Exit->Act->World->Prop}{S:Array Bool->World->Prop}{S0:World->Prop}{i:Nat}{oi:Oper}{v:Value}(hi:ops[i]?=some oi)
  (aN1:∀(j:Nat) (o:Oper) cs b,ops[j]?=some o->o.op≠.select cs b) (hQ:∀c a w,Q (.panic c) (a.put oi.dst v) w->Q (.panic c) a w) (hSi:∀l w,S (l.setIfInBounds i true) w↔S l w) :
  ∀(akh:Nat) (l:Array Bool) (a:Act) (w:World),
   (∀j oj,ops[j]?=some oj->j≠i->l.getD j true=false->(∀e∈oj.after,Region.binds .any e=true->e.on≠i)->oi.apart ops oj=true) ->
   i∈Region.ready .any ops l->YieldsIf P ops S0 oi v a->(∀l' w',Sup ops l l'->l'.getD i true=false->S l' w'->S0 w')->S l w ->
   Om P ops Q S akh (l.setIfInBounds i true) (a.put oi.dst v) w->Om P ops Q S (akh+1) l a w:=by
 intro akh
 induction akh with
 |zero =>
  intro l a w _ hr hy hS0 hS H;refine⟨fun h=>(by rw[h]at hr;cases hr),fun j hj=>?_⟩;by_cases Zf:j=i
  .subst Zf;exact hy.wpOp hi (hS0 l w (Sup.refl ops l) (mem_ready.1 hr).1 hS) ⟨(hSi l w).2 hS,H⟩
  .have:=ready_mono hj Zf;rw[H.1]at this;cases this
 |succ akh ih =>
  intro l a w aDA hr hy hS0 hS H;refine⟨fun h=>(by rw[h]at hr;cases hr),fun j hj=>?_⟩;by_cases Zf:j=i
  .subst Zf;exact hy.wpOp hi (hS0 l w (Sup.refl ops l) (mem_ready.1 hr).1 hS) ⟨(hSi l w).2 hS,H⟩
  .have h1:=H.2 j (ready_mono hj Zf);obtain⟨aN2,oj,hoj,mr⟩:=mem_ready.1 hj;have aG7:∀e∈oj.after,Region.binds .any e=true->e.on≠i:=fun e he hb heq=>by
    have h1:=mr e he hb;have h0:=(mem_ready.1 hr).1;rw[heq]at h1;rcases LO i l.size with h'|h'
    .rw[CQ h']at h0;rw[h0]at h1;cases h1
    .simp[Array.getElem?_eq_none h']at h1
   have h2:=wpOp_putIf hoj (aDA j oj hoj Zf aN2 aG7) (fun cs b=>aN1 i oi cs b hi) (fun cs b=>aN1 j oj cs b hoj) hQ hy h1;have aMf:∀k ok,ops[k]?=some ok->k≠i->(l.setIfInBounds j true).getD k true=false ->
     (∀e∈ok.after,Region.binds .any e=true->e.on≠i)->oi.apart ops ok=true:=fun k ok hk hki hun hno=>by
    refine aDA k ok hk hki ?_ hno;by_cases hjk:j=k
    .subst hjk;exact aN2
    .rw[getD_set_ne true hjk]at hun;exact hun
   refine wpOp_mono (fun a' w' h3=>?_) h2;have hSj:S (l.setIfInBounds j true) w':=by have:=h3.2.1;rw[Array.setIfInBounds_comm _ _ (Ne.symm Zf)]at this;exact(hSi _ _).1 this
   refine⟨hSj,ih (l.setIfInBounds j true) a' w' aMf (ready_mono hr (Ne.symm Zf)) h3.1 (fun l' w'' hs=>hS0 l' w'' ((Sup.set hj).trans hs)) hSj ?_⟩;rw[Array.setIfInBounds_comm _ _ Zf];exact h3.2.2
def Off (C:FuncId->Option Any)(ops:Array Oper)(a:Act)(l0:Array Bool)(k:Nat)(oc:Oper):Prop :=
 ∃t g,afS C oc=some t/\(∀j oj,ops[j]?=some oj->l0.getD j false=false->oj.dst≠some t)/\a.tmps.getD t undef=.pointer (some ⟨g,0,none⟩)/\g≠k
def SI (P:Program)(C:FuncId->Option Any)(ops:Array Oper)(G:Gh)(w:World)(a:Act)(l0 l:Array Bool)(w':World):Prop :=
 w.heap.size<=w'.heap.size/\(∀g,g<w.heap.size->G.own g=none->w'.heap[g]?=w.heap[g]?) /\
  ((∀c oc,ops[c]?=some oc->qX P C ops oc=false->l.getD c true=l0.getD c true)->Below w.heap.size w w') /\
  ∀k,k<w.heap.size->(∀c oc,ops[c]?=some oc->qX P C ops oc=false->l0.getD c false=false->l.getD c false=true->Off C ops a l0 k oc)->w'.heap[k]?=w.heap[k]?
def SI.refl {ops:Array Oper}(l0 l:Array Bool):SI P C ops G w a l0 l w:=⟨bZ _,fun _ _ _=>rfl,fun _=>Below.refl _ w,fun _ _ _=>rfl⟩
def SI.set {ops:Array Oper}{l0:Array Bool}{i:Nat}{oi:Oper}(hi:ops[i]?=some oi)(hl:qX P C ops oi=true)(l:Array Bool)(w':World):SI P C ops G w a l0 (l.setIfInBounds i true) w'↔SI P C ops G w a l0 l w':=by
 have ne:∀c oc,ops[c]?=some oc->qX P C ops oc=false->i≠c:=by intro c oc hc OO;rintro rfl;rw[hi]at hc;cases hc;rw[hl]at OO;cases OO
 have key:∀c oc,ops[c]?=some oc->qX P C ops oc=false->(l.setIfInBounds i true).getD c true=l.getD c true:=fun c oc hc OO=>getD_set_ne true (ne c oc hc OO)
 have aN3:∀c oc,ops[c]?=some oc->qX P C ops oc=false->(l.setIfInBounds i true).getD c false=l.getD c false:=fun c oc hc OO=>getD_set_ne false (ne c oc hc OO)
 refine⟨fun h=>⟨h.1,h.2.1,fun hm=>h.2.2.1 fun c oc hc OO=>(key c oc hc OO).trans (hm c oc hc OO),fun k hk hm=>h.2.2.2 k hk fun c oc hc OO h1 h2=>hm c oc hc OO h1 (by rw[<-aN3 c oc hc OO];exact h2)⟩,
  fun h=>⟨h.1,h.2.1,fun hm=>h.2.2.1 fun c oc hc OO=>((key c oc hc OO).symm.trans (hm c oc hc OO)),fun k hk hm=>h.2.2.2 k hk fun c oc hc OO h1 h2=>hm c oc hc OO h1 (by rw[aN3 c oc hc OO];exact h2)⟩⟩
def SI.step {ops:Array Oper}{l0 l1 l2:Array Bool}{w1 w2:World}{G1:Gh}{a1:Act}(h0:l0.size=ops.size)(h:SI P C ops G w a l0 l1 w1)(hG:∀g,g<w.heap.size->G.own g=none->G1.own g=none)
  (hst:∀t,(∀j oj,ops[j]?=some oj->l0.getD j false=false->oj.dst≠some t)->a1.tmps.getD t undef=a.tmps.getD t undef) (s1:Sup ops l0 l1) (s2:Sup ops l1 l2) (h2:SI P C ops G1 w1 a1 l1 l2 w2):SI P C ops G w a l0 l2 w2:=by
 refine⟨cR h.1 h2.1,fun g hg ho=>(h2.2.1 g (Ev hg h.1) (hG g hg ho)).trans (h.2.1 g hg ho),fun hm=>?_,fun k hk hm=>?_⟩
 .have mid:∀c oc,ops[c]?=some oc->qX P C ops oc=false->l1.getD c true=l0.getD c true:=by
   intro c oc hc OO;have hlt:c<ops.size:=(Bj.1 hc).1;have e0:=hm c oc hc OO;have l1s:l1.size=ops.size:=s1.1.symm.trans h0;have l2s:l2.size=ops.size:=s2.1.symm.trans l1s;rw[CQ (by omega),CQ (by omega)]at e0 ⊢;cases hx:l0.getD c false with
   |true=>exact s1.2.1 c hx
   |false =>
    cases hy:l1.getD c false with
    |false=>rfl
    |true =>
     rw[s2.2.1 c hy,hx]at e0;cases e0
  have b1:=h.2.2.1 mid;have b2:=h2.2.2.1 fun c oc hc OO=>(hm c oc hc OO).trans (mid c oc hc OO).symm
  exact⟨b2.os.trans b1.os,b2.tape.trans b1.tape,b2.output.trans b1.output,cR b1.size b2.size,fun k hk=>(b2.block k (Ev hk b1.size)).trans (b1.block k hk)⟩
 .have aN4:∀c,l1.getD c false=false->l0.getD c false=false:=by
   intro c hc;cases hx:l0.getD c false with
   |false=>rfl|true=>rw[s1.2.1 c hx]at hc;cases hc
  refine(h2.2.2.2 k (Ev hk h.1) fun c oc hc OO h3 h4=>?_).trans (h.2.2.2 k hk fun c oc hc OO h3 h4=>hm c oc hc OO h3 (s2.2.1 c h4));obtain⟨t,g,e1,e2,e3,e4⟩:=hm c oc hc OO (aN4 c h3) h4;exact⟨t,g,e1,fun j oj hj hl=>e2 j oj hj (aN4 j hl),(hst t e2).trans e3,e4⟩
def Inv.aFh (h:Inv w0 G st a w){d g:Nat}(hd:look st.bx d=none)(hdt:d<st.nt)(hg:G.own g=some .hid)(hno:w0.hd g=none){cs:Array Value}{e:TypeId}(hh:w.heap[g]?=some (.cells cs e (0,0))){l:List AC}
  (hl:cT (bS G w st.bx st.bl) l cs.toList) (htm:a.tmps.getD d undef=.pointer (some ⟨g,0,none⟩)) :
  Inv w0 (G.box d g) {(st.put d (.v (.c (.ptr d 0)))) with bx:=(d,l)::st.bx} a w:=by
 have hx:am1 G w (G.box d g) w:=⟨rfl,rfl,bZ _,fun b hb ho=>⟨by
  have:b≠g:=by rintro rfl;rw[hg]at ho;cases ho
  simp[Gh.box,this,ho],rfl⟩⟩
 have hne:∀x,(look st.bx x).isSome=true->x≠d:=by rintro x hs rfl;rw[hd]at hs;cases hs
 have hs:la G st.bx st.bl (G.box d g) ((d,l)::st.bx) st.bl:=by refine⟨fun x hs=>⟨xO _ trivial hs,by simp[Gh.box,hne x hs]⟩,fun id hd=>⟨hd,rfl,fun b' CL=>⟨b',CL,rfl⟩⟩⟩
 refine⟨h.nw,h.rok,h.below,h.defers,h.size,kf.mC hx hs h.sp,fun g' b o hm=>?_,fun t v hv=>?_,fun x m hm=>?_,fun id b hb=>?_,fun g' k hk=>?_⟩
 .obtain⟨h1,h2,h3⟩:=h.hd g' b o hm;refine⟨?_,h2,h3⟩;have:g'≠g:=by rintro rfl;rw[hno]at hm;cases hm
  simp only[Gh.box,this,hZ];exact h1
 .simp only[St.put,aw]at hv;by_cases ht:d=t
  .subst ht;rw[ai rfl]at hv;cases hv;rw[htm];exact⟨by simp[aw],by simp[Gh.box]⟩
  .rw[ah ht]at hv;exact kf.mC hx hs (h.tm t v hv)
 .simp only[aw]at hm;by_cases hxd:d=x
  .subst hxd;rw[ai rfl]at hm;cases hm;exact⟨cs,e,by simpa [Gh.box]using hh,by simp[Gh.box],hl.imp fun _ _=>bS.mC hx hs⟩
  .rw[ah hxd]at hm;obtain⟨cs',e',h1,h2,h3⟩:=h.bx x m hm;have aGR:x≠d:=fun e=>hxd e.symm
   have hgn:G.hb x≠g:=by intro e3;rw[e3,hg]at h2;cases h2
   exact⟨cs',e',by simpa [Gh.box,aGR]using h1,by simp[Gh.box,aGR,hgn,h2],h3.imp fun _ _=>bS.mC hx hs⟩
 .refine(h.bl id b hb).mC hx rfl fun hw g' hgo bK=>⟨?_,rfl⟩
  have:g'≠g:=by rintro rfl;rw[hg]at bK;cases bK
  simp[Gh.box,this,bK]
 .by_cases he:g'=g
  .subst he;simp only[Gh.box,iA]at hk;cases hk;exact⟨(h.own g' _ hg).1,(h.own g' _ hg).2.1,by simp[aw],by simp[Gh.box]⟩
  .simp only[Gh.box,he,hZ]at hk;obtain⟨h1,h2,h3⟩:=h.own g' k hk;refine⟨h1,h2,?_⟩;cases k with
   |hid=>trivial
   |bx x =>
    obtain⟨h4,h5⟩:=hs.bx x h3.1;exact⟨h4,by rw[h5];exact h3.2⟩
   |bl id=>exact h3
def Gh.rowAt (G:Gh)(id g:Nat)(v:Value):Gh :=
 {nw:=G.nw,ok:=G.ok,hb:=G.hb,hv:=fun x=>if x=id then v else G.hv x,own:=fun x=>if x=g then some (.bl id) else G.own x}
def Inv.aFi (h:Inv w0 G st a w){d g:Nat}(hd:look st.bl (d*64)=none)(hdt:d<st.nt)(hg:G.own g=some .hid)(hno:w0.hd g=none){e:TypeId}{cs:List Value}(hh:w.heap[g]?=some (.cells cs.toArray e (0,0))){u:Ty}(hu:0<u.n){n:Nat}{xs:List u.D}{f:Bool}
  (hx1:xs.length=n) (hx2:cs.length=xs.length*u.n) (hx3:n<=maxLen) (FA:fU w (RO G f) u cs xs)
  (htm:a.tmps.getD d undef=.slice (some ⟨g,0,none⟩) n n) :
  Inv w0 (G.rowAt (d*64) g (.slice (some ⟨g,0,none⟩) n n)) {(st.put d (.v (.c (.own (d*64) none)))) with bl:=(d*64,some ⟨e,u,xs,f,true⟩)::st.bl} a w:=by
 have hx:am1 G w (G.rowAt (d*64) g (.slice (some ⟨g,0,none⟩) n n)) w:=⟨rfl,rfl,bZ _,fun b hb ho=>⟨by
  have:b≠g:=by rintro rfl;rw[hg]at ho;cases ho
  simp[Gh.rowAt,this,ho],rfl⟩⟩
 have hne:∀x,(look st.bl x).isSome=true->x≠d*64:=by rintro x hs rfl;rw[hd]at hs;cases hs
 have hs:la G st.bx st.bl (G.rowAt (d*64) g (.slice (some ⟨g,0,none⟩) n n)) st.bx ((d*64,some ⟨e,u,xs,f,true⟩)::st.bl):=by refine⟨fun x hs=>⟨hs,rfl⟩,fun id hs=>⟨xO _ trivial hs,by simp[Gh.rowAt,hne id hs],fun b' CL=>?_⟩⟩;rw[aw,ah (fun e=>hne id hs e.symm)]at CL;exact⟨b',CL,rfl⟩
 refine⟨h.nw,h.rok,h.below,h.defers,h.size,kf.mC hx hs h.sp,fun g' b o hm=>?_,fun t v hv=>?_,fun x m hm=>?_,fun id b hb=>?_,fun g' k hk=>?_⟩
 .obtain⟨h1,h2,h3⟩:=h.hd g' b o hm;refine⟨?_,h2,h3⟩;have:g'≠g:=by rintro rfl;rw[hno]at hm;cases hm
  simp only[Gh.rowAt,this,hZ];exact h1
 .simp only[St.put,aw]at hv;by_cases ht:d=t
  .subst ht;rw[ai rfl]at hv;cases hv;rw[htm];exact⟨by simp[aw],⟨some ⟨g,0,none⟩,n,n,by simp[Gh.rowAt]⟩,by simp[Gh.rowAt]⟩
  .rw[ah ht]at hv;exact kf.mC hx hs (h.tm t v hv)
 .obtain⟨cs',e',h1,h2,h3⟩:=h.bx x m hm;have hgn:G.hb x≠g:=by intro e3;rw[e3,hg]at h2;cases h2
  exact⟨cs',e',h1,by simp[Gh.rowAt,hgn,h2],h3.imp fun _ _=>bS.mC hx hs⟩
 .simp only[aw]at hb;by_cases hi:d*64=id
  .subst hi;rw[ai rfl]at hb;cases hb;refine⟨fun _=>⟨cs,⟨hx2,.inr ⟨g,n,cs.toArray,by simp[Gh.rowAt,hx1],aT _,hh,by show xs.length<=n;omega,hx3,by simp[hx2,hx1],?_⟩⟩,fun g' hg'=>?_,FA.mC hx⟩,(fun hw=>by cases hw),hu⟩
   .show List.take (xs.length*u.n) cs.toArray.toList=cs;rw[<-hx2];simp
   .simp only[Gh.rowAt,iA,Value.ownBlock]at hg' ⊢;cases hg';simp
  .rw[ah hi]at hb;have hi':id≠d*64:=fun e=>hi e.symm
   refine(h.bl id b hb).mC hx (by simp[Gh.rowAt,hi']) fun hw g' hgo bK=>⟨?_,rfl⟩
   have:g'≠g:=by rintro rfl;rw[hg]at bK;cases bK
   simp[Gh.rowAt,this,bK]
 .by_cases he:g'=g
  .subst he;simp only[Gh.rowAt,iA]at hk;cases hk;exact⟨(h.own g' _ hg).1,(h.own g' _ hg).2.1,by simp[aw],by simp[Gh.rowAt,Value.ownBlock]⟩
  .simp only[Gh.rowAt,he,hZ]at hk;obtain⟨h1,h2,h3⟩:=h.own g' k hk;refine⟨h1,h2,?_⟩;cases k with
   |hid=>trivial|bx x=>exact h3
   |bl id =>
    obtain⟨h4,h5,_⟩:=hs.bl id h3.1;exact⟨h4,by rw[h5];exact h3.2⟩
def oo {d t:Nat}(h:t≠d)(u:Value):(a.put (some d) u).tmps.getD t undef=a.tmps.getD t undef:=by simp[Act.put,OP,aC7,Ne.symm h]
def Inv.aQb (h:Inv w0 G st a w){d:Nat}(hd:look st.tm d=none)(u:Value):Inv w0 G st (a.put (some d) u) w:=by refine {h with defers:=h.defers,size:=by simp[Act.put,h.size],tm:=fun t v hv=>?_};rw[oo (by rintro rfl;rw[hd]at hv;cases hv)];exact h.tm t v hv
def Inv.aQc (h:Inv w0 G st a w)(o:Obj) :
  Inv {w0 with hd:=fun g=>if g=w.heap.size then some (true,o) else w0.hd g} {G with own:=fun g=>if g=w.heap.size then some .hid else G.own g} st a (w.alloc o):=by
 have hne:∀b,b<w.heap.size->b≠w.heap.size:=fun b hb=>Nat.ne_of_lt hb
 have hold:∀b,b<w.heap.size->(w.alloc o).heap[b]?=w.heap[b]?:=fun b hb=>by show(w.heap.push o)[b]?=_;rw[Array.getElem?_push,ah (hne b hb)]
 have hsz:(w.alloc o).heap.size=w.heap.size+1:=by show(w.heap.push o).size=_;rw[Array.size_push]
 have hx:am1 G w {G with own:=fun g=>if g=w.heap.size then some .hid else G.own g} (w.alloc o):=⟨rfl,rfl,by omega,fun b hb ho=>⟨by simp[hne b hb,ho],hold b hb⟩⟩;have hs:la G st.bx st.bl {G with own:=fun g=>if g=w.heap.size then some .hid else G.own g} st.bx st.bl:=⟨fun _ h=>⟨h,rfl⟩,fun _ h=>⟨h,rfl,fun b' CL=>⟨b',CL,rfl⟩⟩⟩;refine⟨h.nw,h.rok,h.below.step rfl rfl rfl (by omega) fun k hk _=>hold k (Ev hk h.below.size),h.defers,h.size,kf.mC hx hs h.sp,fun g b ob hm=>?_,fun t v hv=>kf.mC hx hs (h.tm t v hv),fun d l hl=>?_,fun id b hb=>?_,fun g k hk=>?_⟩
 .dsimp only at hm;by_cases hg:g=w.heap.size
  .rw[ai hg]at hm;cases hm;subst hg;exact⟨by simp[aDf],by omega,by show(w.heap.push o)[w.heap.size]?=_;rw[Array.getElem?_push,ai rfl]⟩
  .rw[ah hg]at hm;obtain⟨h1,h2,h3⟩:=h.hd g b ob hm;exact⟨by simp[hg,h1],by omega,(hold g h2).trans h3⟩
 .obtain⟨cs,e,h1,h2,h3⟩:=h.bx d l hl;have hlt:=(h.own _ _ h2).2.1;exact⟨cs,e,(hold _ hlt).trans h1,by simp[hne _ hlt,h2],h3.imp fun _ _=>bS.mC hx hs⟩
 .exact EA.mC hx rfl (fun hw g hg ho=>by have hlt:=(h.own _ _ ho).2.1;exact⟨by simp[hne _ hlt,ho],hold _ hlt⟩) (h.bl id b hb)
 .dsimp only at hk;by_cases hg:g=w.heap.size
  .rw[ai hg]at hk;cases hk;exact⟨.inl (by rw[hg];exact h.below.size),by omega,trivial⟩
  .rw[ah hg]at hk;obtain⟨h1,h2,h3⟩:=h.own g k hk;refine⟨h1,by omega,?_⟩;cases k with
   |hid=>trivial|bx x=>exact h3|bl id=>exact h3
def I9 {V:Type}(t s:Nat):∀l:List (Nat×V),look (l.filter fun p=> !Nat.beq p.1 t) s=if s=t then none else look l s
 |[]=>by simp[look]
 |(k,v)::l=>by
  have ih:=I9 t s l;by_cases hk:k=t
  .have:(!Nat.beq (k,v).1 t)=false:=by simp[hk]
   rw[List.filter_cons_of_neg (by simp[this]),ih,aw];by_cases hs:s=t
   .simp[hs]
   .simp[hs,hk,Ne.symm hs]
  .have hb:(!Nat.beq (k,v).1 t)=true:=by
    cases h:Nat.beq k t with
    |true=>exact absurd (aP h) hk|false=>simp[h]
   rw[List.filter_cons_of_pos (p:=fun p:Nat×V=> !Nat.beq p.1 t) hb,aw,aw,ih];by_cases hs:s=t
   .simp[hs,hk]
   .simp[hs]
def Inv.aJX (h:Inv w0 G st a w)(t:Tmp):Inv w0 G (st.drop t) a w:=by
 refine {h with tm:=fun s v hs=>h.tm s v ?_};unfold St.drop at hs;dsimp only at hs;rw[I9]at hs;split at hs
 .cases hs
 .exact hs
def q0 {ops:Array Oper}{l:Array Bool}:∀(is:List Nat) {st:St},Inv w0 G st a w->Inv w0 G (uj P ops l is st) a w
 |[],_,h=>h|i::is,st,h=>by
  unfold uj;split
  .split
   .exact(q0 is h).aJX _
   .exact q0 is h
  .exact q0 is h
def aiK {ops:Array Oper}{l:Array Bool}{x:Nat}{o:Oper}{d:Tmp}(ho:ops[x]?=some o)(hf:dt P o=true)(hl:l.getD x true=false)(hd:o.dst=some d):∀(is:List Nat) (st:St),x∈is->look (uj P ops l is st).tm d=none
 |[],_,h=>by cases h
 |i::is,st,h=>by
  unfold uj;rcases dE.1 h with rfl|h
  .rw[ho];simp only[hf,hl,hd,ff,Bool.and_self];show look (List.filter _ _) d=none;rw[I9,ai rfl]
  .have ih:=aiK ho hf hl hd is st h;split
   .split
    .show look (List.filter _ _) d=none;rw[I9];split
     .rfl
     .exact ih
    .exact ih
   .exact ih
def mkF (o:Oper)(g:Nat):Value:=match o.op with
 |.alloc _=>.pointer (some ⟨g,0,none⟩)|.buildSlice _ len _=>.slice (some ⟨g,0,none⟩) len len|_=>undef
def anv (P:Program)(o:Oper)(a:Act)(obj:Obj):Prop:=match o.op with
 |.alloc t=>∃i v,P.info? t=some i/\i.zero=some v/\obj=.cells v.cells t (0,0)|.buildSlice t _ parts=>∃e,Ey P t=some e/\obj=.cells (af1 a parts.toList).toArray e (0,0)|_=>False
def aiL {a a':Act}:∀{l:List (Nat×Operand)},(∀p∈l,∀s,p.2=.tmp s->a'.tmps.getD s undef=a.tmps.getD s undef)->af1 a' l=af1 a l
 |[],_=>rfl|(j,x)::l,h=>by
  have h1:a'.eval x=a.eval x:=by
   cases x with
   |tmp s=>exact h (j,.tmp s) (by simp) s rfl
   |_=>rfl
  simp only[af1,h1,aiL fun p hp=>h p (ka _ hp)]
def anv.same {a a':Act}{obj:Obj}(h:anv P o a obj)(ha:∀t,acS o t=true->a'.tmps.getD t undef=a.tmps.getD t undef):anv P o a' obj:=by
 unfold anv at h ⊢;unfold acS at ha;split at h
 .exact h
 .rename_i t len parts ho;simp only[ho]at ha;obtain⟨e,h1,h2⟩:=h;refine⟨e,h1,?_⟩;rw[aiL (a:=a)]
  .exact h2
  .intro p hp s hs;exact ha s (auW.2 ⟨p,hp,by rw[hs];simp⟩)
 .exact h
def aLm (P:Program)(C:FuncId->Option Any)(N:Nat)(o:Oper)(d:Tmp):Prop :=
 ∀{w0:fR} {G:Gh} {st:St} {a:Act} {w:World} {g:Nat} {obj:Obj} {U:Type} {k:St->Option U} {r:U},Inv w0 G st a w->G.own g=some .hid->w0.hd g=none->w.heap[g]?=some obj->anv P o a obj->a.tmps.getD d undef=mkF o g ->
  jP P C (sd.Rm N) o st k=some r->∃G' dV,Inv w0 G' dV a w/\k dV=some r/\(∀b,G.own b=none->G'.own b=none)
def adg:∀{l:List AC} {st:St},xM l=true->st.freeze l=st
 |[],_,_=>rfl|c::l,st,h=>by
  have h1:st.eF c=st:=by cases c<;>first|rfl|(simp[xM]at h)
  have h2:xM l=true:=by cases c<;>first|exact h|(simp[xM]at h)
  show List.foldl St.eF (st.eF c) l=st;rw[h1];exact adg h2
def aty {l m:List AC}(h1:xM l=true)(h2:xM m=true):xM (l++m)=true:=by
 induction l with
 |nil=>exact h2|cons c l ih=>cases c<;>first|exact ih h1|(simp[xM]at h1)
def abk:∀{t:Ty} {l r:List AC} {x:t.D},flat t=true->im st t l=some (x,r)->∃p,l=p++r/\xM p=true
 |.int k,[],_,_,_,h=>by simp[im]at h
 |.int k,c::l,_,_,_,h=>by
  cases c<;>simp[im]at h
  exact⟨[_],by rw[h.2.2];rfl,rfl⟩
 |.bool,[],_,_,_,h=>by simp[im]at h
 |.bool,c::l,_,_,_,h=>by
  cases c<;>simp[im]at h
  exact⟨[_],by rw[h.2];rfl,rfl⟩
 |.str,[],_,_,_,h=>by simp[im]at h
 |.str,c::l,_,_,_,h=>by
  cases c<;>simp[im]at h
  exact⟨[_],by rw[h.2];rfl,rfl⟩
 |.unit,l,r,x,_,h=>by simp only[im]at h;cases h;exact⟨[],rfl,rfl⟩
 |.pair t u,l,r,x,hf,h=>by
  simp only[flat,aI]at hf;simp only[im]at h;split at h
  .rename_i y r1 h1;split at h
   .rename_i z r2 h2;cases h;obtain⟨p,e1,n1⟩:=abk hf.1 h1;obtain⟨q,e2,n2⟩:=abk hf.2 h2;exact⟨p++q,by rw[e1,e2,iT],aty n1 n2⟩
   .cases h
  .cases h
 |.sl _ _,_,_,_,hf,_=>by simp[flat]at hf
def atz {u:Ty}(hf:flat u=true):∀{l:List (Nat×Operand)} {i:Nat} {xs:List u.D},jy st u i l=some xs->xM (c8 st l)=true
 |[],_,_,_=>rfl|(j,x)::l,i,xs,h=>by
  simp only[jy]at h;split at h
  .split at h
   .rename_i y hy;split at h
    .rename_i ys hys;obtain⟨p,e,n⟩:=abk hf hy;rw[iz]at e;exact aty (by rw[e];exact n) (atz hf hys)
    .cases h
   .cases h
  .cases h
def Ry (hf:dt P o=true):∃d,o.dst=some d/\o.guard=none/\(∀{w0:fR} {G:Gh} {st:St} {a:Act} {w:World},Inv w0 G st a w->LR P st o=true->∃obj,(execOp a.eval o).run P w=.ok (.value (mkF o w.heap.size)) (w.alloc obj)/\anv P o a obj)/\aLm P C N o d:=by
 unfold dt at hf;split at hf
 .rename_i d t hg hd ho;split at hf
  .rename_i z hz;obtain⟨i,v,hi,hv,rfl⟩:=jQ hz;refine⟨d,hd,hg,fun _ _=>⟨.cells v.cells t (0,0),?_,?_⟩,?_⟩
   .unfold execOp mkF;rw[ho];simp[Instr.alloc,zeroValue,typeInfo,hi,hv,BF]
   .unfold anv;rw[ho];exact⟨i,v,hi,hv,rfl⟩
   .intro w0 G st a w g obj U k r h hg' hno hh anw htm hr;unfold anv at anw;simp only[ho]at anw;obtain⟨i',v',hi',hv',rfl⟩:=anw;rw[hi]at hi';cases hi';rw[hv]at hv';cases hv';simp only[jP,ho,hd,hz]at hr;split at hr
    .rename_i hb;obtain⟨hc,hk⟩:=aY hr;rw[aI]at hc;refine⟨_,_,h.aFh hb (iD hc.1) hg' hno hh ((qY v).cells hc.2) (by rw[htm];unfold mkF;rw[ho]),hk,fun b hb=>?_⟩;have:b≠g:=by rintro rfl;rw[hg']at hb;cases hb
     simp[Gh.box,this,hb]
    .cases hr
  .cases hf
 .rename_i d t len parts hg hd ho;split at hf
  .rename_i e he;split at hf
   .rename_i u hu;simp only[aI]at hf;obtain⟨⟨h1,h2⟩,⟨⟨⟨h3,h4⟩,h6⟩,h5⟩⟩:=hf;have hlen:=aP h2;have hp:0<u.n:=UU (bO h4);have h16:=Fz h6;obtain⟨i,hi,his⟩:=pM (aP h3) hp;obtain⟨z,hz⟩:=mA.1 h5;obtain⟨i',zv,hi',hiz,_⟩:=jQ hz;rw[hi]at hi';cases hi';have hut:P.underlying t=some (.slice e):=by
     unfold Ey at he;split at he
     .rename_i e' hu;cases he;exact hu
     .cases he
    refine⟨d,hd,hg,?_,?_⟩
    .intro w0 G st a w h hkn;unfold LR at hkn;simp only[ho,he,hu]at hkn;obtain⟨xs,hl⟩:=mA.1 hkn;have avh:((Array.range (len*u.n)).map (fun q=>(if len*u.n=0 then #[] else zv.cells)[q%(if len*u.n=0 then #[] else zv.cells).size]!)).size=(0+parts.toList.length)*u.n:=by simp[<-hlen]
     obtain⟨cs,Vf,hcl,hxl,FA,hpv⟩:=Vi (ok:=fun _=>True) h hp parts.toList 0 _ xs (fun t c v ys _=>Vk h t c v ys) avh hl;simp only[amR,List.take_zero,Bk]at Vf;refine⟨.cells cs.toArray e (0,0),?_,?_⟩
     .unfold execOp mkF;rw[ho];dsimp only;have:=JB (P:=P) (w:=w) hut hi hiz (len:=len) (parts:=parts.map fun (i,x)=>(i,a.eval x)) (cells:=cs.toArray) (by rw[his];omega) (by rw[his,acM];exact Vf);simp only[Sem.run_bind,this,Result.andThen_ok];rfl
     .unfold anv;rw[ho];exact⟨e,he,by rw[hpv]⟩
    .intro w0 G st a w g obj U k r h hg' hno hh anw htm hr;unfold anv at anw;simp only[ho]at anw;obtain⟨e',he',rfl⟩:=anw;rw[he]at he';cases he';simp only[jP,ho,hd,he,hu]at hr;split at hr
     .rename_i xs hl;split at hr
      .rename_i O1;have avh:((Array.range (len*u.n)).map (fun q=>(if len*u.n=0 then #[] else zv.cells)[q%(if len*u.n=0 then #[] else zv.cells).size]!)).size=(0+parts.toList.length)*u.n:=by simp[<-hlen]
       obtain⟨cs,_,hcl,hxl,FA,hpv⟩:=Vi (ok:=fun _=>True) h hp parts.toList 0 _ xs (fun t c v ys _=>Vk h t c v ys) avh hl;have hfz:xM (c8 st parts.toList)=true:=by
        rw[kE]at h1;rcases h1 with h1|h1
        .exact atz h1 hl
        .have h0:=aP h1;have:parts.toList=[]:=Za (by omega);rw[this];rfl
       have aN5:fU w (RO G (cZ (c8 st parts.toList))) u cs xs:=by
        rw[kE]at h1;rcases h1 with h1|h1
        .exact anf h1 FA
        .have h0:=aP h1;have:xs=[]:=Za (by omega);subst this;exact fun j x hj=>by simp at hj
       rw[adg hfz]at hr;unfold St.row at hr;split at hr
       .cases hr
       .rename_i hb;obtain⟨hc,hk⟩:=aY hr;rw[<-hpv]at hh;have hle:len<=len*u.n:=auO _ hp;have hmax:maxLen=9223372036854775807:=rfl;refine⟨_,_,Inv.aFi (e:=e) (u:=u) (n:=len) h hb (iD hc) hg' hno hh hp (by omega) hcl (by omega) aN5 (by rw[htm];unfold mkF;rw[ho]),hk,fun b hb=>?_⟩;have:b≠g:=by rintro rfl;rw[hg']at hb;cases hb
        simp[Gh.rowAt,this,hb]
      .cases hr
     .cases hr
   .cases hf
  .cases hf
 .cases hf
def aFj {k:St->Option U}(hf:dt P o=true)(hr:jP P C (sd.Rm N) o st k=some r):LR P st o=true:=by
 unfold dt at hf;split at hf
 .rename_i d t hg hd ho;unfold LR;rw[ho]
 .rename_i d t len parts hg hd ho;unfold LR;simp only[ho];simp only[jP,ho,hd]at hr;split at hf
  .rename_i e he;split at hf
   .rename_i u hu;simp only[he,hu]at hr ⊢;split at hr
    .rename_i xs hl;rw[hl];rfl
    .cases hr
   .cases hf
  .cases hf
 .cases hf
def fR.from (w0:fR)(G:Gh)(w:World)(h1:w0.w.heap.size<=w.heap.size)(h2:∀g k,G.own g=some k->w0.nw g):fR where
 w:=w
 ok:=w0.ok
 nw:=w0.nw
 fr g:=(G.own g).isSome=true
 hnw b hb:=w0.hnw b (cR h1 hb)
 hfr b hb:=by obtain⟨k,hk⟩:=mA.1 hb;exact h2 b k hk
 pv:=w0.pv
 hd g:=match w0.hd g with
  |some x=>some x|none=>match G.own g with
   |none=>(w.heap[g]?).map fun o=>(false,o)
   |some _=>none
def Inv.aN6 (h:Inv w0 G st a w):∀g k,G.own g=some k->w0.nw g:=fun g k hk=>by rw[<-h.nw];exact h.U9 hk
abbrev Inv.root (h:Inv w0 G st a w):fR:=w0.from G w h.below.size h.aN6
def Inv.from (h:Inv w0 G st a w):Inv h.root G st a w:=by
 refine⟨h.nw,h.rok,fK.refl _ _,h.defers,h.size,h.sp,fun g b o hm=>?_,h.tm,h.bx,h.bl,fun g k hk=>?_⟩
 .simp only[Inv.root,fR.from]at hm;split at hm
  .rename_i x hx;cases hm;exact h.hd g b o hx
  .split at hm
   .rename_i hg;cases hh:w.heap[g]? with
    |none=>rw[hh]at hm;cases hm
    |some o' =>
     rw[hh]at hm;cases hm;exact⟨hg,(Bj.1 hh).1,rfl⟩
   .cases hm
 .obtain⟨_,h2,h3⟩:=h.own g k hk;exact⟨.inr (by simp[Inv.root,fR.from,hk]),h2,h3⟩
def Inv.BJ (h:Inv w0 G st a w){w1:World}(hk:fK h.root.fr w w1):fK w0.fr w0.w w1 :=
 h.below.step hk.os hk.tape hk.output hk.size fun k hk1 hk2=>hk.block k (Ev hk1 h.below.size) fun hfr=>by
  obtain⟨q,hq⟩:=mA.1 (show(G.own k).isSome=true from hfr);rcases(h.own k q hq).1 with h1|h1
  .omega
  .exact hk2 h1
def Inv.anx (h:Inv w0 G st a w){G':Gh}{dV:St}{a':Act}{w':World}(h':Inv h.root G' dV a' w') :
  Inv w0 G' dV a' w'/\w.heap.size<=w'.heap.size/\∀g,g<w.heap.size->G.own g=none->G'.own g=none/\w'.heap[g]?=w.heap[g]?:=by
 refine⟨⟨h'.nw,h'.rok,h.BJ h'.below,h'.defers,h'.size,h'.sp,fun g b o hm=>h'.hd g b o ?_,h'.tm,h'.bx,h'.bl,fun g k hk=>?_⟩,h'.below.size,fun g hg ho=>?_⟩
 .simp only[Inv.root,fR.from,hm]
 .obtain⟨h1,h2,h3⟩:=h'.own g k hk;refine⟨?_,h2,h3⟩;rcases h1 with h1|h1
  .exact .inl (cR h.below.size h1)
  .obtain⟨q,hq⟩:=mA.1 (show(G.own g).isSome=true from h1);exact(h.own g q hq).1
 .cases hx:w0.hd g with
  |some x =>
   obtain⟨b,o⟩:=x;obtain⟨h1,h2,h3⟩:=h.hd g b o hx;obtain⟨h4,h5,h6⟩:=h'.hd g b o (by simp only[Inv.root,fR.from,hx]);cases b with
   |true =>
    rw[ho]at h1;cases h1
   |false=>exact⟨h4,h6.trans h3.symm⟩
  |none =>
   have hh:w.heap[g]?=some w.heap[g]:=aAS hg;obtain⟨h4,h5,h6⟩:=h'.hd g false w.heap[g] (by simp only[Inv.root,fR.from,hx,ho,hh,Option.map_some]);exact⟨h4,h6.trans hh.symm⟩
def Inv.aN7 (h:Inv w0 G st a w){f:FuncId}{con:Any}(hc:SG P w0 f con):SG P h.root f con:=by
 cases con with
 |one c=>exact⟨hc.1,fun x r hg w1 hk=>hc.2 x r hg w1 (h.BJ hk)⟩
 |idx i=>exact⟨hc.1,fun W hk=>hc.2 W (h.BJ hk)⟩
 |ins e u=>exact⟨hc.1,fun W hk=>hc.2 W (h.BJ hk)⟩
 |del e u=>exact⟨hc.1,fun W hk=>hc.2 W (h.BJ hk)⟩
 |sel c =>
  refine⟨hc.1,hc.2.1,fun x r hg w1 hk ok nw own g0 vs u hh ha=>hc.2.2 x r hg w1 (h.BJ hk) ok nw own g0 vs u ⟨hh.mD,fun g j hj=>?_,hh.dZ⟩ ha⟩;obtain⟨h1,h2,h3⟩:=hh.bK g j hj;refine⟨h1,h2,?_⟩;rcases h3 with h3|h3
  .exact .inl (cR h.below.size h3)
  .obtain⟨q,hq⟩:=mA.1 (show(G.own g).isSome=true from h3);exact(h.own g q hq).1
 |two c =>
  refine⟨hc.1,hc.2.1,fun x r hg w1 hk ok nw own g0 vs u hh ha=>hc.2.2 x r hg w1 (h.BJ hk) ok nw own g0 vs u ⟨hh.mD,fun g j hj=>?_,hh.dZ⟩ ha⟩;obtain⟨h1,h2,h3⟩:=hh.bK g j hj;refine⟨h1,h2,?_⟩;rcases h3 with h3|h3
  .exact .inl (cR h.below.size h3)
  .obtain⟨q,hq⟩:=mA.1 (show(G.own g).isSome=true from h3);exact(h.own g q hq).1
def aJY {K:Act->World->Prop}{Q:Exit->Act->World->Prop}(h:o.wp P a w K Q) :
  o.wp P a w (fun a' w'=>K a' w'/\a'.tmps.size=a.tmps.size/\∀t,o.dst≠some t->a'.tmps.getD t undef=a.tmps.getD t undef) Q:=by
 have key:∀(b:Act) u,b.tmps=a.tmps->(b.put o.dst u).tmps.size=a.tmps.size/\∀t,o.dst≠some t->(b.put o.dst u).tmps.getD t undef=a.tmps.getD t undef:=by
  intro b u hb;cases hd:o.dst with
  |none=>exact⟨by simp[Act.put,hb],fun t _=>by simp[Act.put,hb]⟩
  |some d =>
   refine⟨by simp[Act.put,hb],fun t ht=>?_⟩;have hne:t≠d:=fun e=>ht (by rw[e])
   rw[oo hne,hb]
 unfold Oper.wp Oper.upon at h ⊢;split at h
 .exact⟨h,key a _ rfl⟩
 .exact⟨h,key a _ rfl⟩
 .exact⟨h,key _ _ rfl⟩
 .refine Calls.mono h fun e w' he=>?_
  cases e with
  |returned v=>exact⟨he,key a _ rfl⟩|panicked c=>exact he|_=>exact he
 .exact Rows.mono h fun v w' he=>⟨he,key a _ rfl⟩
 all_goals exact h
def JF (hc:p8 P o=true):dt P o=false:=by
 unfold dt;split
 .rename_i ho;simp[p8,ho]at hc
 .rename_i ho;simp[p8,ho]at hc
 .rfl
def aFk {k:St->Option U}(h:Inv w0 G st a w)(hr:jP P C (sd.Rm N) o st k=some r)(hm:au4 o=true) :
  ∃v ob,(execOp a.eval o).run P w=.ok (.value v) (w.alloc ob):=by
 unfold au4 at hm;split at hm
 .rename_i t ho;simp only[jP,ho]at hr;split at hr
  .split at hr
   .split at hr
    .rename_i z hz;obtain⟨i,v,hi,hv,rfl⟩:=jQ hz;refine⟨.pointer (some ⟨w.heap.size,0,none⟩),.cells v.cells t (0,0),?_⟩;unfold execOp;rw[ho];simp[Instr.alloc,zeroValue,typeInfo,hi,hv,BF]
    .cases hr
   .cases hr
  .cases hr
 .rename_i t x ho;refine⟨.pointer (some ⟨w.heap.size,0,none⟩),.cells (a.eval x).cells t (0,0),?_⟩;unfold execOp;rw[ho];simp[Instr.box,BF]
 .rename_i t len parts ho;simp only[jP,ho]at hr;split at hr
  .rename_i d e hd he;split at hr
   .rename_i u hu;split at hr
    .rename_i xs hl;split at hr
     .rename_i hc;obtain⟨cs,hx⟩:=ake h t len parts ho he hl hc;exact⟨_,_,hx⟩
     .cases hr
    .cases hr
   .cases hr
  .cases hr
 .cases hm
def aHo {ops:Array Oper}{k:St->Option U}(h:Inv w0 G st a w)(hr:jP P C (sd.Rm N) o st k=some r){t:Tmp}(ht:aa4 o=some t){g0:Nat}(hs0:a.tmps.getD t undef=.slice (some ⟨g0,0,none⟩) 0 0) :
  ∃v w',(execOp a.eval o).run P w=.ok (.value v) w'/\Below w.heap.size w w':=by
 unfold aa4 at ht;split at ht
 .rename_i args ts ho;split at ht
  .rename_i t' y t1 t2 ha hts;split at ht
   .rename_i hb;cases ht;have:=aP hb;subst this;simp only[jP,ho]at hr;split at hr
    .rename_i d s x t1' t2' hd ha' aN8;rw[ha]at ha';rw[hts]at aN8;cases ha';cases aN8;split at hr
     .rename_i e he;split at hr
      .rename_i u z hu hz;exact aBk h ho ha hts he hz (d:=d) hs0 hr
      .cases hr
     .cases hr
    .cases hr
   .cases ht
  .cases ht
 .cases ht
def jR (h:Ht P o=true):dt P o=true:=by unfold Ht at h;rw[aI]at h;exact h.1
def anz (h:Ht P o=true)(g:Nat):mkF o g=.slice (some ⟨g,0,none⟩) 0 0:=by
 unfold Ht at h;rw[aI]at h;unfold mkF;split at h
 .rename_i ho;rw[ho]
 .cases h.2
def avA (C:FuncId->Option Any)(o:Oper)(a:Act)(w w':World):Prop :=
 ∀t g k,afS C o=some t->a.tmps.getD t undef=.pointer (some ⟨g,0,none⟩)->k<w.heap.size->k≠g->w'.heap[k]?=w.heap[k]?
def avA.below {w':World}(h:Below w.heap.size w w'):avA C o a w w':=fun _ _ k _ _ hk _=>h.block k hk
def aBw {ops:Array Oper}{Q:Exit->Act->World->Prop}{k:St->Option U}(hC:∀f con,C f=some con->SG P w0 f con)(h:Inv w0 G st a w)(hr:jP P C (sd.Rm N) o st k=some r)
  (hz:∀t,aa4 o=some t->OT P ops o=true->∃g,a.tmps.getD t undef=.slice (some ⟨g,0,none⟩) 0 0) (hdl:∀d,dt P o=true->o.dst=some d->d<a.tmps.size) :
  o.wp P a w (fun a' w'=>(((∃G' dV,Inv w0 G' dV a' w'/\k dV=some r)/\(qX P C ops o=true->Below w.heap.size w w'))/\(Ht P o=true->∀d,o.dst=some d->∃g,a'.tmps.getD d undef=.slice (some ⟨g,0,none⟩) 0 0)/\avA C o a w w')/\a'.tmps.size=a.tmps.size/\∀t,o.dst≠some t->a'.tmps.getD t undef=a.tmps.getD t undef) Q:=by
 refine aJY ?_;have hK:sg w0 k r (fun a' w'=>∃G' dV,Inv w0 G' dV a' w'/\k dV=some r):=fun G' dV a' w' h' l4=>⟨G',dV,h',l4⟩
 by_cases hl:qX P C ops o=true
 .by_cases hc:p8 P o=true
  .obtain⟨v,G',dV,he,hi,hk⟩:=abj hc h hr;exact Jw (he w (yA (Below.refl _ w))) ⟨⟨⟨G',dV,hi,hk⟩,fun _=>Below.refl _ w⟩,fun hem=>absurd (jR hem) (by rw[JF hc];simp),.below (Below.refl _ w)⟩
  .by_cases hf:dt P o=true
   .obtain⟨d,hd,hg,he,_⟩:=Ry (C:=C) (N:=N) hf;obtain⟨obj,he,_⟩:=he h (aFj hf hr);have:=EE (Q:=Q) hC h hr hK;unfold Oper.wp at this ⊢;rw[he]at this ⊢;refine⟨⟨this,fun _=>⟨rfl,rfl,rfl,by simp,fun k hk=>Below.heap_alloc _ _ _ hk⟩⟩,fun hem d' hd'=>⟨w.heap.size,?_⟩,.below ⟨rfl,rfl,rfl,by simp,fun k hk=>Below.heap_alloc _ _ _ hk⟩⟩;have hlt:=hdl d' hf hd';rw[hd',anz hem];simp[Act.put,OP,hlt]
   .by_cases hm:au4 o=true
    .obtain⟨v,ob,he⟩:=aFk h hr hm;have:=EE (Q:=Q) hC h hr hK;unfold Oper.wp at this ⊢;rw[he]at this ⊢;exact⟨⟨this,fun _=>⟨rfl,rfl,rfl,by simp,fun k hk=>Below.heap_alloc _ _ _ hk⟩⟩,fun hem=>absurd (jR hem) hf,.below ⟨rfl,rfl,rfl,by simp,fun k hk=>Below.heap_alloc _ _ _ hk⟩⟩
    by_cases hfa:OT P ops o=true
    .obtain⟨t,ht⟩:∃t,aa4 o=some t:=by
      cases hx:aa4 o with
      |none=>simp[OT,hx]at hfa|some t=>exact⟨t,rfl⟩
     obtain⟨g,hg⟩:=hz t ht hfa;obtain⟨v,w',he,hB⟩:=aHo (ops:=ops) h hr ht hg;have:=EE (Q:=Q) hC h hr hK;unfold Oper.wp at this ⊢;rw[he]at this ⊢;exact⟨⟨this,fun _=>hB⟩,fun hem=>absurd (jR hem) hf,.below hB⟩
    have hcall:aA5 C o=true:=by
     unfold qX at hl;simp only[kE]at hl;rcases hl with (((hl|hl)|hl)|hl)|hl
     .exact absurd hl hc
     .exact absurd hl hf
     .exact hl
     .exact absurd hl hm
     .exact absurd hl hfa
    unfold aA5 at hcall;split at hcall
    .rename_i f args ts cC;simp only[jP,cC]at hr;split at hr
     .rename_i con fF;exact aiJ (show aiF P w0 f con from hC f (.one con) fF) h cC hr fun G' dV a' w' h' l4 hB=>⟨⟨⟨G',dV,h',l4⟩,fun _=>hB⟩,fun hem=>absurd (jR hem) hf,.below hB⟩
     .rename_i con fF;rw[fF]at hcall;cases hcall
     .rename_i con fF;rw[fF]at hcall;cases hcall
     .rename_i fF;rw[fF]at hcall;cases hcall
     .rename_i fF;rw[fF]at hcall;cases hcall
     .rename_i fF;rw[fF]at hcall;cases hcall
     .cases hr
    .cases hcall
 .have hem:∀{U:Prop},Ht P o=true->U:=fun hem=>absurd (show qX P C ops o=true by unfold qX;rw[jR hem];simp) hl
  cases hb:afS C o with
  |none=>exact Oper.wp_mono (fun a' w' h'=>⟨⟨h',fun h=>absurd h hl⟩,fun h=>hem h,fun t g k ht=>(by rw[hb]at ht;cases ht)⟩) (EE (Q:=Q) hC h hr hK)
  |some t =>
   have hb0:=hb;unfold afS at hb;split at hb
   .rename_i f args ts cC;split at hb
    .rename_i con fF;have Ol:(con.pm=.box\/con.pm=.cur)/\og args.toList con.i=some (.tmp t):=by
      cases hp:con.pm with
      |box =>
       rw[hp]at hb;dsimp only at hb;split at hb
       .rename_i t' ht';cases hb;exact⟨.inl rfl,ht'⟩
       .cases hb
      |cur =>
       rw[hp]at hb;dsimp only at hb;split at hb
       .rename_i t' ht';cases hb;exact⟨.inr rfl,ht'⟩
       .cases hb
      |rd=>rw[hp]at hb;cases hb|own f=>rw[hp]at hb;cases hb
     simp only[jP,cC,fF]at hr;refine Oper.wp_mono (fun a' w' h'=>⟨⟨h'.1,fun h=>absurd h hl⟩,fun h=>hem h,fun t' g k ht hv hk hne=>?_⟩) (ade (show abd P w0 f con from hC f (.two con) fF) h cC hr hK);rw[hb0]at ht;cases ht;exact h'.2 (.tmp t) g Ol.1 Ol.2 hv k hk hne
    .cases hb
   .cases hb
def Rz {ops:Array Oper}{j:Nat}{oj:Oper}{dj:Tmp}{tmps:Array Value}(h1:og ops.toList j=some oj)(h2:oj.dst=some dj) :
  yielded ops tmps j=match tmps.getD dj undef with|.bool b=>some b|_=>none:=by
 have h3:ops[j]?=some oj:=by rw[avg]at h1;simpa using h1
 unfold yielded;rw[h3];simp only[amJ,h2];rw[OP];cases tmps[dj]? with
 |none=>rfl|some v=>cases v<;>rfl
def Zj {ops:Array Oper}{k:St->Option U}(h:Inv w0 G st a w)(hr:acR P C (sd.Rm N) ops.toList o st k=some r) :
  (Region.wanted o (yielded ops a.tmps)=true/\∃dV,(dV=st\/∃dj b b',st.get dj=.v (.c (.bool b))/\dV=st.put dj (.v (.c (.bool b'))))/\Inv w0 G dV a w/\jP P C (sd.Rm N) o dV k=some r) \/
  (Region.wanted o (yielded ops a.tmps)=false/\∃G' dV,Inv w0 G' dV (a.put o.dst undef) w/\k dV=some r):=by
 have Vu:∀{st:St},Inv w0 G st a w->St.pk st o.dst (.UO []) k=some r->∃G' dV,Inv w0 G' dV (a.put o.dst undef) w/\k dV=some r:=by
  intro st h hr;obtain⟨G',dV,h1,h2⟩:=CM (K:=fun a' w'=>∃G' dV,Inv w0 G' dV a' w'/\k dV=some r) h (v:=.UO []) (u:=undef) ⟨#[],rfl,trivial⟩ hr fun G' dV a' w' h' l4=>⟨G',dV,h',l4⟩
  exact⟨G',dV,h1,h2⟩
 unfold acR at hr;split at hr
 .rename_i hg;exact .inl ⟨by simp[Region.wanted,hg],st,.inl rfl,h,hr⟩
 .rename_i j U4 hg;split at hr
  .rename_i oj hoj;split at hr
   .rename_i dj hdj;have hy:=Rz (tmps:=a.tmps) hoj hdj;have Rr:=h.ev (.tmp dj);rw[show st.ev (.tmp dj)=st.get dj from rfl]at Rr;split at hr
    .rename_i b hb;rw[hb]at Rr;have hv:a.tmps.getD dj undef=.bool b:=Rr;rw[hv]at hy;have adh:∀b',b=b'->Inv w0 G (st.put dj (.v (.c (.bool b')))) a w:=by intro b' CL;subst CL;exact h.lit (.tmp dj) b hv
     rcases acV hr with ⟨hb1,hr⟩|⟨hb1,hr⟩
     .subst hb1;cases U4 with
      |true=>exact .inl ⟨by simp[Region.wanted,hg,hy],_,.inr ⟨dj,_,_,hb,rfl⟩,adh true rfl,hr⟩
      |false=>exact .inr ⟨by simp[Region.wanted,hg,hy],Vu (adh true rfl) hr⟩
     .subst hb1;cases U4 with
      |true=>exact .inr ⟨by simp[Region.wanted,hg,hy],Vu (adh false rfl) hr⟩
      |false=>exact .inl ⟨by simp[Region.wanted,hg,hy],_,.inr ⟨dj,_,_,hb,rfl⟩,adh false rfl,hr⟩
    .rename_i hb;rw[hb]at Rr;obtain⟨vs,hv,hvs⟩:=Rr;have hv:a.tmps.getD dj undef=.tuple vs:=hv;rw[hv]at hy;exact .inr ⟨by simp[Region.wanted,hg,hy],Vu h hr⟩
    .cases hr
   .cases hr
  .cases hr
def Zk {ops:Array Oper}{M:Array Bool}:∀{l:List Nat} {j:Nat} {o:Oper},U5 P C ops M st l=some (j,o)->j∈l/\ops[j]?=some o/\p8 P o=true/\Region.free .any ops M j=true/\((Ju st o=true\/aDb ops.toList st o=true)\/(acT P C ops M j=true\/au5 P C ops M st j o=true))
 |[],_,_,h=>by simp[U5]at h
 |i::l,j,o,h=>by
  simp only[U5]at h;split at h
  .rename_i o' ho';split at h
   .rename_i hc;cases h;simp only[aI,kE]at hc;exact⟨by simp,ho',hc.1.1,hc.1.2,hc.2.elim (fun h=>h.elim (fun h=>h.elim (fun h=>.inl (.inl h)) fun h=>.inr (.inl h)) fun h=>.inl (.inr h)) fun h=>.inr (.inr h)⟩
   .obtain⟨h1,h2⟩:=Zk h;exact⟨by simp[h1],h2⟩
  .cases h
def Zl {ops:Array Oper}{M:Array Bool}:∀{l:List Nat} {j:Nat} {o:Oper},U6 P ops M st l=some (j,o)->j∈l/\ops[j]?=some o/\aGH j (Region.ready .any ops (yy P ops j (List.range ops.size) M))=true/\axT P ops M st (List.range ops.size)=true
 |[],_,_,h=>by simp[U6]at h
 |i::l,j,o,h=>by
  simp only[U6]at h;split at h
  .rename_i o' ho';split at h
   .rename_i hc;cases h;rw[aI]at hc;exact⟨by simp,ho',hc.1,hc.2⟩
   .obtain⟨h1,h2⟩:=Zl h;exact⟨by simp[h1],h2⟩
  .cases h
def anA {ops:Array Oper}{M:Array Bool}:∀{l:List Nat},axT P ops M st l=true->∀i∈l,∀o,ops[i]?=some o->dt P o=true->M.getD i true=false->waits P ops M o=true\/LR P st o=true
 |[],_,i,h=>by cases h
 |j::l,h,i,hi=>by
  simp only[axT,aI]at h;intro o ho hf hM;rcases dE.1 hi with rfl|hi
  .have:=h.1;rw[ho]at this;simpa [hf,hM]using this
  .exact anA h.2 i hi o ho hf hM
def aBx {ops:Array Oper}{M:Array Bool}(h:waits P ops M o=true):∃e∈o.after,Region.binds .any e=true/\∃oe,ops[e.on]?=some oe/\dt P oe=false/\M.getD e.on true=false:=by
 unfold waits at h;obtain⟨e,he,hb⟩:=auT.1 h;rw[aI]at hb;refine⟨e,he,hb.1,?_⟩;have h2:=hb.2;split at h2
 .rename_i oe hoe;rw[aI]at h2;exact⟨oe,hoe,by simpa using h2.1,by simpa using h2.2⟩
 .cases h2
def atA {x:Nat}:∀{l:List Nat},aGH x l=true->∀i∈l,i=x
 |[],_,i,h=>by cases h
 |j::l,h,i,hi=>by
  simp only[aGH,aI]at h;rcases dE.1 hi with rfl|hi
  .exact aP h.1
  .exact atA h.2 i hi
def yD {ops:Array Oper}{x:Nat}:∀(is:List Nat) {l:Array Bool} {i:Nat},l.getD i false=true->(yy P ops x is l).getD i false=true
 |[],_,_,h=>h|j::is,l,i,h=>by
  unfold yy;split
  .split
   .exact yD is (getD_set_true h)
   .exact yD is h
  .exact yD is h
def CR {ops:Array Oper}{x y:Nat}{o:Oper}(ho:ops[y]?=some o)(hf:dt P o=true)(hxy:y≠x):∀(is:List Nat) {l:Array Bool},y<l.size->y∈is->(yy P ops x is l).getD y false=true
 |[],_,_,h=>by cases h
 |j::is,l,hl,h=>by
  have hb:Nat.beq y x=false:=by
   cases hb:Nat.beq y x with
   |true=>exact absurd (aP hb) hxy|false=>rfl
  unfold yy;rcases dE.1 h with rfl|h
  .rw[ho];simp only[hf,hb,ff,Bool.and_self];exact yD is (by simp[OP,hl])
  .split
   .split
    .exact CR ho hf hxy is (by simpa using hl) h
    .exact CR ho hf hxy is hl h
   .exact CR ho hf hxy is hl h
def CS {ops:Array Oper}{x y:Nat}{o:Oper}(ho:ops[y]?=some o)(hf:dt P o=false\/y=x):∀(is:List Nat) {l:Array Bool},(yy P ops x is l).getD y true=l.getD y true
 |[],_=>rfl|j::is,l=>by
  unfold yy;split
  .rename_i o' ho';split
   .rename_i hc;rw[CS ho hf is];refine getD_set_ne true ?_;rintro rfl;rw[ho]at ho';cases ho';rw[aI]at hc;rcases hf with hf|rfl
    .rw[hf]at hc;cases hc.1
    .simp at hc
   .exact CS ho hf is
  .exact CS ho hf is
def Vv {ops:Array Oper}{M:Array Bool}:∀{l:List Nat},I4 P ops M l=true->∀i∈l,∀o,ops[i]?=some o->dt P o=true->M.getD i true=true
 |[],_,i,h=>by cases h
 |j::l,h,i,hi=>by
  simp only[I4,aI]at h;intro o ho hf;rcases dE.1 hi with rfl|hi
  .have:=h.1;rw[ho]at this;simpa [hf]using this
  .exact Vv h.2 i hi o ho hf
def aiM {ops:Array Oper}{M:Array Bool}:∀{l:List Nat} {st:St},(∀i∈l,∀o,ops[i]?=some o->dt P o=true->M.getD i true=true)->uj P ops M l st=st
 |[],_,_=>rfl|i::l,st,h=>by
  have ih:=aiM (st:=st) fun j hj=>h j (ka _ hj)
  unfold uj;split
  .rename_i o ho;split
   .rename_i hc _;rw[aI]at hc;have:=h i qU o ho hc.1;rw[this]at hc;cases hc.2
   .exact ih
  .exact ih
def arN {ops:Array Oper}{M:Array Bool}{i:Nat}(h:acT P C ops M i=true){c:Nat}{oc:Oper}(hc:ops[c]?=some oc)(hl:qX P C ops oc=false):M.getD c true=true\/pe ops M i 3 oc=true:=by unfold acT at h;rw[iU]at h;have:=h c (kb.2 (Bj.1 hc).1);rw[hc]at this;simpa only[hl,Jq,kE]using this
def Zm {ops:Array Oper}{M:Array Bool}{i n:Nat}(h:pe ops M i (n+1) o=true):∃e∈o.after,Region.binds .any e=true/\(e.on=i\/(M.getD e.on true=false/\∃oe,ops[e.on]?=some oe/\pe ops M i n oe=true)):=by
 unfold pe at h;obtain⟨e,he,hb⟩:=auT.1 h;rw[aI,kE]at hb;refine⟨e,he,hb.1,?_⟩;rcases hb.2 with h1|h1
 .exact .inl (by simpa using h1)
 .rw[aI]at h1;refine .inr ⟨by simpa using h1.1,?_⟩;have h2:=h1.2;split at h2
  .exact⟨_,by assumption,h2⟩
  .cases h2
def aiN {ops:Array Oper}{M R:Array Bool}{i:Nat}(hR:∀d od,ops[d]?=some od->M.getD d true=false->R.getD d false=true->∀e∈od.after,Region.binds .any e=true->R.getD e.on false=true)(hi:R.getD i false=false) :
  ∀(n d:Nat) (od:Oper),ops[d]?=some od->M.getD d true=false->R.getD d false=true->pe ops M i n od=true->False
 |0,_,_,_,_,_,h=>by simp[pe]at h
 |n+1,d,od,ho,hM,hRd,h=>by
  obtain⟨e,he,hb,h1⟩:=Zm h;have h2:=hR d od ho hM hRd e he hb;rcases h1 with h1|⟨h1,oe,hoe,hw⟩
  .rw[h1,hi]at h2;cases h2
  .exact aiN hR hi n e.on oe hoe h1 h2 hw
def RA {ops:Array Oper}{M R l:Array Bool}{i:Nat}(hR:∀d od,ops[d]?=some od->M.getD d true=false->R.getD d false=true->∀e∈od.after,Region.binds .any e=true->R.getD e.on false=true)(hi:R.getD i false=false)(hs:Sup ops R l)(hl:l.getD i false=false) :
  ∀(n c:Nat) (oc:Oper),ops[c]?=some oc->R.getD c false=false->l.getD c false=true->pe ops M i n oc=true->False
 |0,_,_,_,_,_,h=>by simp[pe]at h
 |n+1,c,oc,ho,hRc,OO,h=>by
  obtain⟨e,he,hb,h1⟩:=Zm h;have h2:=hs.2.2 c oc ho hRc OO e he hb;rcases h1 with h1|⟨h1,oe,hoe,hw⟩
  .rw[h1,hl]at h2;cases h2
  .cases hx:R.getD e.on false with
   |true=>exact aiN hR hi n e.on oe hoe h1 hx hw|false=>exact RA hR hi hs hl n e.on oe hoe hx h2 hw
def yE {ops:Array Oper}{nt:Nat}(h:se P ops nt=true){x:Nat}{o:Oper}(ho:ops[x]?=some o)(hf:dt P o=true){d:Tmp}(hd:o.dst=some d):d<nt/\∀y o',ops[y]?=some o'->y≠x->o'.dst≠some d:=by
 unfold se at h;rw[aI]at h
 replace h:=h.2
 rw[iU]at h;have:=h x (kb.2 (Bj.1 ho).1);rw[ho]at this;simp only[hf,aO,Jq,aI,hd]at this;refine⟨iD this.1,fun y o' ho' hne hd'=>?_⟩;have h2:=this.2;rw[iU]at h2;have:=h2 y (kb.2 (Bj.1 ho').1);rw[ho']at this;simp only[hd']at this;have hb:Nat.beq y x=false:=by
  cases hb:Nat.beq y x with
  |true=>exact absurd (aP hb) hne|false=>rfl
 rw[hb]at this;simp[atb]at this
def SH {ops:Array Oper}{nt:Nat}(h:se P ops nt=true){x:Nat}{o:Oper}(ho:ops[x]?=some o)(hf:dt P o=true){y:Nat}{o':Oper}(ho':ops[y]?=some o'){t:Tmp}(hd:o'.dst=some t)(hu:acS o t=true) :
  dt P o'=false/\∃e∈o.after,Region.binds .any e=true/\e.on=y:=by
 unfold se at h;rw[aI]at h
 replace h:=h.1
 unfold amY at h;rw[iU]at h;have:=h x (kb.2 (Bj.1 ho).1);rw[ho]at this;simp only[hf,aO,Jq]at this;rw[iU]at this;have:=this y (kb.2 (Bj.1 ho').1);rw[ho']at this;simp only[hd,hu,aO,Jq,aI]at this;refine⟨by simpa using this.1,?_⟩;obtain⟨e,he,hb⟩:=auT.1 this.2;rw[aI]at hb;exact⟨e,he,hb.1,aP hb.2⟩
def unl (R:Array Bool)(n:Nat):Nat:=(List.range n).countP fun i=> !R.getD i true
def atB {p q:Nat->Bool}{i:Nat}(hpq:∀x,q x=true->p x=true)(hp:p i=true)(hq:q i=false):∀{l:List Nat},i∈l->l.countP q<l.countP p
 |[],h=>by cases h
 |j::l,h=>by
  have hle:l.countP q<=l.countP p:=aAX fun x _ hx=>hpq x hx
  rcases dE.1 h with rfl|h
  .rw[Gu,Gu,hp,hq];simp;omega
  .have ih:=atB hpq hp hq h;rw[Gu,Gu];cases hqj:q j with
   |false=>simp;omega|true=>rw[hpq j hqj];simp;omega
def aDC {R:Array Bool}{n i:Nat}(hi:i<n)(hR:R.size=n)(hu:R.getD i true=false):unl (R.setIfInBounds i true) n<unl R n:=by
 refine atB (i:=i) (fun x hx=>?_) (by simp[hu]) ?_ (kb.2 hi)
 .by_cases hxi:i=x
  .subst hxi;simp[hu]
  .rw[getD_set_ne true hxi]at hx;exact hx
 .have:(R.setIfInBounds i true).getD i true=true:=by simp[OP,aC7,hR,hi]
  simp[this]
def aDD {R:Array Bool}{n i:Nat}(hi:i<n)(hu:R.getD i true=false):0<unl R n :=
 List.countP_pos_iff.2 ⟨i,kb.2 hi,by simp[hu]⟩
structure LU (P:Program) (C:FuncId->Option Any) (N:Nat) (ops:Array Oper) (hd0 hd1:Nat->Option (Bool×Obj)) (M R:Array Bool) (E:Nat->Option Nat) (a:Act):Prop where
 szM:M.size=ops.size
 szR:R.size=ops.size
 rel:∀i,R.getD i false=(M.getD i false || (E i).isSome)
 early:∀x g,E x=some g->M.getD x false=false/\∃o d obj,ops[x]?=some o/\dt P o=true/\o.dst=some d/\(aLm P C N o d/\anv P o a obj/\∀e∈o.after,Region.binds .any e=true->R.getD e.on false=true)/\a.tmps.getD d undef=mkF o g/\hd1 g=some (true,obj)/\hd0 g=none
 inj:∀x y g,E x=some g->E y=some g->x=y
 z:∀x ox d,ops[x]?=some ox->Ht P ox=true->ox.dst=some d->R.getD x false=true->∃g,a.tmps.getD d undef=.slice (some ⟨g,0,none⟩) 0 0
 hd:∀g v,hd0 g=some v->hd1 g=some v
section
variable {ops:Array Oper} {hd0 hd1:Nat->Option (Bool×Obj)} {M R:Array Bool} {E:Nat->Option Nat}
def lg {l:Array Bool}{i:Nat}(h:l.getD i true=false):l.getD i false=false:=by
 rcases LO i l.size with h'|h'
 .rw[<-CQ h'];exact h
 .simp[Array.getElem?_eq_none h',OP]
def ami {l:Array Bool}{i:Nat}(h:l.getD i false=false)(hi:i<l.size):l.getD i true=false:=by rw[CQ hi];exact h
def O2 {l:Array Bool}{i:Nat}(hi:i<l.size):(l.setIfInBounds i true).getD i false=true:=by simp[OP,aC7,hi]
def LU.ready (hE:LU P C N ops hd0 hd1 M R E a){j:Nat}(hj:j∈Region.ready .any ops M)(hn:E j=none):j∈Region.ready .any ops R:=by
 obtain⟨h1,o,ho,mr⟩:=mem_ready.1 hj;have hlt:j<ops.size:=(Bj.1 ho).1;refine mem_ready.2 ⟨ami ?_ (by rw[hE.szR];exact hlt),o,ho,fun e he hb=>?_⟩
 .rw[hE.rel,lg h1,hn];rfl
 .rw[hE.rel,mr e he hb,amS]
def LU.unM (hE:LU P C N ops hd0 hd1 M R E a){j:Nat}(h:R.getD j true=false)(hlt:j<ops.size):M.getD j true=false/\E j=none:=by
 have h1:=lg h;rw[hE.rel]at h1;simp only[aip]at h1;refine⟨ami h1.1 (by rw[hE.szM];exact hlt),?_⟩;cases hx:E j with
 |none=>rfl
 |some g =>
  rw[hx]at h1;cases h1.2
def LU.next (hE:LU P C N ops hd0 hd1 M R E a){nt:Nat}(hfd:se P ops nt=true){j:Nat}{o:Oper}(ho:ops[j]?=some o)(hn:E j=none)(hjR:R.getD j true=false){a':Act}(ha:∀t,o.dst≠some t->a'.tmps.getD t undef=a.tmps.getD t undef)
  (hz:Ht P o=true->∀d,o.dst=some d->∃g,a'.tmps.getD d undef=.slice (some ⟨g,0,none⟩) 0 0) :
  LU P C N ops hd0 hd1 (M.setIfInBounds j true) (R.setIfInBounds j true) E a':=by
 have hlt:j<ops.size:=(Bj.1 ho).1;refine⟨by simpa using hE.szM,by simpa using hE.szR,fun i=>?_,fun x g hx=>?_,hE.inj,fun x ox d hox hem hd hx=>?_,hE.hd⟩
 .by_cases hij:j=i
  .subst hij;rw[O2 (by rw[hE.szR];exact hlt),O2 (by rw[hE.szM];exact hlt)];rfl
  .rw[getD_set_ne false hij,getD_set_ne false hij];exact hE.rel i
 .obtain⟨h1,ox,d,obj,h2,h3,h4,h5,h6,h7,h8⟩:=hE.early x g hx;have hne:j≠x:=by rintro rfl;rw[hn]at hx;cases hx
  refine⟨by rw[getD_set_ne false hne];exact h1,ox,d,obj,h2,h3,h4,⟨h5.1,h5.2.1.same fun t ht=>ha t fun hdt=>?_,fun e he hb=>getD_set_true (h5.2.2 e he hb)⟩,?_,h7,h8⟩
  .obtain⟨_,e,he,hb,hon⟩:=SH hfd h2 h3 ho hdt ht;have:=h5.2.2 e he hb;rw[hon,lg hjR]at this;cases this
  rw[ha d ((yE hfd h2 h3 h4).2 j o ho hne)];exact h6
 .by_cases hjx:j=x
  .subst hjx;rw[ho]at hox;cases hox;exact hz hem d hd
  .rw[ha d ((yE hfd hox (jR hem) hd).2 j o ho hjx)];rw[getD_set_ne false hjx]at hx;exact hE.z x ox d hox hem hd hx
def aHq (n x:Nat):(Array.replicate n false).getD x false=false:=by rw[OP,Array.getElem?_replicate];split<;>rfl
def aBy (a:Act)(o:Oper)(v:Value)(t:Tmp)(ht:o.dst≠some t):(a.put o.dst v).tmps.getD t undef=a.tmps.getD t undef:=by
 cases hd:o.dst with
 |none=>simp[Act.put]|some d=>exact oo (fun e=>ht (by rw[hd,e])) v
def aJZ {uB:St}(h:uB=st\/∃dj b b',st.get dj=.v (.c (.bool b))/\uB=st.put dj (.v (.c (.bool b')))){x:Operand}{d off:Nat}(hp:st.ac x=.ptr d off):uB.ac x=.ptr d off:=by
 rcases h with rfl|⟨dj,b,b',hg,rfl⟩
 .exact hp
 .cases x with
  |tmp s =>
   by_cases hs:dj=s
   .subst hs;simp only[St.ac,St.eZ,St.ev,hg]at hp;cases hp
   .have:(st.put dj (.v (.c (.bool b')))).ac (.tmp s)=st.ac (.tmp s):=by simp only[St.ac,St.eZ,St.ev,St.get,St.put,aw,ah hs]
    rw[this];exact hp
  |_=>exact hp
def avB {k:St->Option U}(h:Inv w0 G st a w){t:TypeId}{x:Operand}(ho:o.op=.load t x){d arG:Nat}(acW:st.ac x=.ptr d arG)(hr:jP P C (sd.Rm N) o st k=some r):am4 P w0 G w d a o k r:=by
 simp only[jP,ho]at hr;split at hr
 .rename_i l off hcell;split at hr
  .rename_i hn;split at hr
   .exact aDl h t x ho hcell hn (b:=true) ‹_› (v:=.agg _) rfl acW hr
   .split at hr
    .rename_i nT _ y hq;exact aDl h t x ho hcell hn (b:=false) nT (v:=.c y) ⟨y,hq,rfl⟩ acW hr
    .cases hr
   .cases hr
  .cases hr
 .cases hr
def ayi {M:Array Bool}{t:Tmp}(h:aA6 ops M t=true){j:Nat}{oj:Oper}(hj:ops[j]?=some oj)(hl:M.getD j true=false):oj.dst≠some t:=by have:=iU.1 h j (kb.2 (Bj.1 hj).1);rw[hj]at this;dsimp only at this;rw[hl,Jq]at this;intro hd;rw[hd]at this;simp[atb]at this
def ayj {M:Array Bool}{i:Nat}(h:au5 P C ops M st i o=true):∃t x b off,o.op=.load t x/\st.ac x=.ptr b off/\∀c oc,ops[c]?=some oc->qX P C ops oc=false->M.getD c true=true\/pe ops M i 3 oc=true \/
  ∃tc bb,afS C oc=some tc/\st.get tc=.v (.c (.ptr bb 0))/\bb≠b/\aA6 ops M tc=true:=by
 unfold au5 at h;split at h
 .rename_i t x ho;split at h
  .rename_i b off hp;refine⟨t,x,b,off,ho,hp,fun c oc hc hl=>?_⟩;have:=iU.1 h c (kb.2 (Bj.1 hc).1);rw[hc]at this;dsimp only at this;rw[hl,Jq,kE,kE]at this;rcases this with (h1|h1)|h1
   .exact .inl h1
   .exact .inr (.inl h1)
   .refine .inr (.inr ?_);split at h1
    .rename_i tc htc;rw[aI]at h1;obtain⟨h2,h3⟩:=h1;split at h2
     .rename_i bb hbb;exact⟨tc,bb,htc,hbb,bO h2,h3⟩
     .cases h2
    .cases h1
  .cases h
 .cases h
def aBz {x:Option Tmp}{t:Tmp}(h:atb x (some t)=true):x=some t:=by
 cases x with
 |none=>cases h|some s=>rw[aP (show Nat.beq s t=true from h)]
def LU.fresh (hE:LU P C N ops hd0 hd1 M R E a){i:Nat}(hi:i∈Region.ready .any ops R)(ho:ops[i]?=some o)(t:Tmp)(ht:aa4 o=some t)(hf:OT P ops o=true):∃g,a.tmps.getD t undef=.slice (some ⟨g,0,none⟩) 0 0:=by
 obtain⟨_,o',ho',mr⟩:=mem_ready.1 hi;rw[ho]at ho';cases ho';unfold OT at hf;rw[ht]at hf;obtain⟨x,_,hx⟩:=auW.1 (show(List.range ops.size).any _=true from hf);split at hx
 .rename_i ox hox;simp only[aI]at hx;obtain⟨⟨h1,h2⟩,h3⟩:=hx;obtain⟨e,he,hb⟩:=auT.1 h3;rw[aI]at hb;have hon:=aP hb.2;have:=mr e he hb.1;rw[hon]at this;exact hE.z x ox t hox h1 (aBz h2) this
 .cases hx
def LU.dlt (_:LU P C N ops hd0 hd1 M R E a){nt:Nat}(hfd:se P ops nt=true)(hnt:a.tmps.size=nt){i:Nat}(ho:ops[i]?=some o)(d:Tmp)(hf:dt P o=true)(hd:o.dst=some d):d<a.tmps.size:=by rw[hnt];exact(yE hfd ho hf hd).1
def ayk {uB:St}(h:uB=st\/∃dj b b',st.get dj=.v (.c (.bool b))/\uB=st.put dj (.v (.c (.bool b'))))(hro:Ju st o=true):Ju uB o=true:=by
 rcases h with rfl|⟨dj,b,b',hg,rfl⟩
 .exact hro
 .cases cC:o.op with
  |load t x =>
   simp only[Ju,cC]at hro ⊢;cases x with
   |const _=>exact hro
   |tmp s =>
    by_cases hs:dj=s
    .subst hs;simp only[St.ac,St.eZ,St.ev,hg]at hro;cases hro
    .have:(st.put dj (.v (.c (.bool b')))).ac (.tmp s)=st.ac (.tmp s):=by simp only[St.ac,St.eZ,St.ev,St.get,St.put,aw,ah hs]
     rw[this];exact hro
   |_=>exact hro
  |convert _ _ _=>simp[Ju,cC]at hro|_=>simp[Ju,cC]
def aBA (h:Inv w0 G st a w)(hs:aDb ops.toList st o=true):Region.wanted o (yielded ops a.tmps)=false:=by
 unfold aDb at hs;split at hs
 .cases hs
 .rename_i j U4 hg;split at hs
  .rename_i oj hoj;split at hs
   .rename_i dj hdj;have hy:=Rz (tmps:=a.tmps) hoj hdj;have Rr:=h.ev (.tmp dj);rw[show st.ev (.tmp dj)=st.get dj from rfl]at Rr;split at hs
    .rename_i hb;rw[hb]at Rr;rw[show a.tmps.getD dj undef=.bool true from Rr]at hy;simp[Region.wanted,hg,hy]
    .rename_i hb;rw[hb]at Rr;rw[show a.tmps.getD dj undef=.bool false from Rr]at hy;simp[Region.wanted,hg,hy]
    .rename_i hb;rw[hb]at Rr;obtain⟨vs,hv,hvs⟩:=Rr;have hv:a.tmps.getD dj undef=.tuple vs:=hv;rw[hv]at hy;simp[Region.wanted,hg,hy]
    .cases hs
   .cases hs
  .cases hs
def aHr (hC:∀f con,C f=some con->SG P w0 f con){Q:Exit->Act->World->Prop}(hQ:∀c a a' w,Q (.panic c) a w->Q (.panic c) a' w)(hs:Region.noSelect ops=true){nt:Nat}(hfd:se P ops nt=true){k:St->Option U}(hK:sg w0 k r (Q .normal)) :
  ∀(s m n:Nat),m+n=s->∀{M R:Array Bool} {E:Nat->Option Nat} {hd1:Nat->Option (Bool×Obj)} {G:Gh} {st:St} {a:Act} {w:World},unl R ops.size<=n->a.tmps.size=nt->LU P C N ops w0.hd hd1 M R E a ->
   Inv {w0 with hd:=hd1} G (uj P ops M (List.range ops.size) st) a w->Hu P C (sd.Rm N) ops m M st k=some r->Om P ops Q (SI P C ops G w a R) n R a w:=by
 intro s
 induction s using Nat.strongRecOn with
 |ind s ih =>
 intro m n hmn M R E hd1 G st a w aMi hnt hE hI hr;have hlt:∀{i:Nat} {o:Oper},ops[i]?=some o->i<ops.size:=fun h=>(Bj.1 h).1
 have aLo:Region.ready .any ops M=[]->ck (I4 P ops M (List.range ops.size)) (k st)=some r->Om P ops Q (SI P C ops G w a R) n R a w:=by
  intro kz hr;obtain⟨mr,hr⟩:=aY hr;have hal:=fun i hi=>Vv mr i (kb.2 hi)
  have hEn:∀x,E x=none:=by
   intro x;cases hx:E x with
   |none=>rfl
   |some g =>
    obtain⟨h1,o,d,obj,h2,h3,_⟩:=hE.early x g hx;have:=hal x (hlt h2) o h2 h3;rw[ami h1 (by rw[hE.szM];exact hlt h2)]at this;cases this
  rw[aiM (fun i hi o ho hf=>hal i (kb.1 hi) o ho hf)]at hI;have hI0:Inv w0 G st a w:=⟨hI.nw,hI.rok,hI.below,hI.defers,hI.size,hI.sp,fun g b o hm=>hI.hd g b o (hE.hd g _ hm),hI.tm,hI.bx,hI.bl,hI.own⟩;refine ayh (List.eq_nil_iff_forall_not_mem.2 fun i hi=>?_) (hK _ _ _ _ hI0 hr) n;obtain⟨h1,o,ho,atC⟩:=mem_ready.1 hi;have:i∈Region.ready .any ops M:=by refine mem_ready.2 ⟨(hE.unM h1 (hlt ho)).1,o,ho,fun e he hb=>?_⟩;have:=atC e he hb;rw[hE.rel,hEn]at this;simpa using this
  rw[kz]at this;cases this
 cases m with
 |zero =>
  simp only[Hu]at hr;split at hr
  .rename_i kz;exact aLo kz hr
  .cases hr
 |succ m =>
  have X8:=hr;simp only[Hu]at hr;split at hr
  .rename_i kz;exact aLo kz hr
  .rename_i i0 rest kz;have hCF:=fun f con h=>hI.aN7 (hC f con h:SG P {w0 with hd:=hd1} f con)
   split at hr
   ·
    rename_i j o hp;obtain⟨h1,ho,ayl,aDA,w9⟩:=Zk hp;rw[<-kz]at h1;have hEj:E j=none:=by
     cases hx:E j with
     |none=>rfl
     |some g =>
      obtain⟨_,o',d,obj,h2,h3,_⟩:=hE.early j g hx;rw[ho]at h2;cases h2;rw[JF ayl]at h3;cases h3
    have hjR:=hE.ready h1 hEj;have hun:=(mem_ready.1 hjR).1;have aMj:qX P C ops o=true:=by unfold qX;rw[ayl];rfl
    cases n with
    |zero=>exact absurd (aDD (hlt ho) hun) (by omega)
    |succ n =>
     have aOa:=aDC (hlt ho) hE.szR hun;have fin:∀{v:Value} {G2:Gh} {st2:St},Inv hI.root G2 st2 (a.put o.dst v) w->Hu P C (sd.Rm N) ops m (M.setIfInBounds j true) st2 k=some r->(∃S0:World->Prop,YieldsIf P ops S0 o v a/\∀l' w',Sup ops R l'->l'.getD j true=false->SI P C ops G w a R l' w'->S0 w') ->
       Om P ops Q (SI P C ops G w a R) (n+1) R a w:=by
      intro v G2 st2 hi2 hr2 ⟨S0,hy,hS0⟩;obtain⟨hb1,hb2,hb3⟩:=hI.anx hi2;have hih:=ih (m+n) (by omega) m n rfl (M:=M.setIfInBounds j true) (R:=R.setIfInBounds j true) (by omega) (by rw[<-hnt];cases o.dst<;>simp[Act.put])
       (hE.next hfd ho hEj hun (a':=a.put o.dst v) (fun t ht=>by
        cases hd:o.dst with
        |none=>simp[Act.put]|some d=>exact oo (fun e=>ht (by rw[hd,e])) v) fun hem=>absurd (jR hem) (by rw[JF ayl];simp)) (q0 _ hb1) hr2
      refine avz ho (Region.noSelect_spec hs) (fun c a w hq=>hQ c _ _ w hq) (fun l w'=>SI.set ho aMj l w') n R a w ?_ hjR hy hS0 (SI.refl R R) (xP n (fun l' w' hs' hS'=>?_) hih)
      .intro j' oj' hj' hne hu aG7;exact Region.free_spec ho aDA j' oj' hj' hne ((hE.unM hu (hlt hj')).1) aG7
      .exact SI.step hE.szR ((SI.set ho aMj R w).2 (SI.refl R R)) (fun g hg ho=>(hb3 g hg ho).1) (fun t ht=>aBy a o v t (ht j o ho (lg hun))) (Sup.set hjR) hs' hS'
     rcases Zj hI.from hr with ⟨hw,uB,aOb,hi,hr1⟩|⟨hw,G1,uB,hi,hr1⟩
     .rcases w9 with (hro|aiO)|(aQf|hbx)
      .have aQg:Ju uB o=true:=ayk aOb hro;obtain⟨v,G2,st2,he,hi2,hr2⟩:=avy ayl aQg hi hr1;exact fin hi2 hr2 ⟨_,.inl ⟨hw,he⟩,fun l' w' _ _ hS'=>hS'.2.1⟩
      .rw[aBA hI aiO]at hw;cases hw
      .obtain⟨v,G2,st2,he,hi2,hr2⟩:=abj ayl hi hr1;refine fin hi2 hr2 ⟨fun w'=>Below w.heap.size w w',.inl ⟨hw,fun w' hB=>he w' (yA hB)⟩,fun l' w' aFl aMk hS'=>hS'.2.2.1 fun c oc hc OO=>?_⟩;have l's:l'.size=ops.size:=aFl.1.symm.trans hE.szR;rw[CQ (by rw[l's];exact hlt hc),CQ (by rw[hE.szR];exact hlt hc)];rcases arN aQf hc OO with aHs|hwf
       .have hR:R.getD c false=true:=by rw[hE.rel,<-CQ (by rw[hE.szM];exact hlt hc),aHs,amS]
        rw[hR,aFl.2.1 c hR]
       .cases hx:R.getD c false with
        |true=>rw[aFl.2.1 c hx]
        |false =>
         cases hy:l'.getD c false with
         |false=>rfl
         |true =>
          refine(RA (R:=R) (i:=j) (fun d od hd hMd hRd e he hb=>?_) (lg hun) aFl (lg aMk) 3 c oc hc hx hy hwf).elim;rw[hE.rel,lg hMd,Jq]at hRd;obtain⟨g,hg⟩:=mA.1 hRd;obtain⟨_,od',_,_,aHt,_,_,h5,_⟩:=hE.early d g hg;rw[hd]at aHt;cases aHt;exact h5.2.2 e he hb
      .obtain⟨t,x,b,off,cC,acW,mr⟩:=ayj hbx;obtain⟨v,G2,st2,he,hi2,hr2⟩:=avB hi cC (aJZ aOb acW) hr1;have hrel:=hI.ac x;rw[acW]at hrel;obtain⟨aOd,_⟩:=hrel;obtain⟨lb,hlb⟩:=mA.1 aOd;obtain⟨_,_,_,aLp,_⟩:=hI.bx b lb hlb;have aLY:=(hI.own _ _ aLp).2.1;refine fin hi2 hr2 ⟨fun w'=>w'.heap[G.hb b]?=w.heap[G.hb b]?,.inl ⟨hw,he⟩,fun l' w' aFl aMk hS'=>hS'.2.2.2 (G.hb b) aLY fun c oc hc OO hcR hcl=>?_⟩;rcases mr c oc hc OO with aHs|hwf|⟨tc,bb,htc,hbb,hne,aQj⟩
       .have:R.getD c false=true:=by rw[hE.rel,<-CQ (by rw[hE.szM];exact hlt hc),aHs,amS]
        rw[this]at hcR;cases hcR
       .refine(RA (R:=R) (i:=j) (fun d od hd hMd hRd e he hb=>?_) (lg hun) aFl (lg aMk) 3 c oc hc hcR hcl hwf).elim;rw[hE.rel,lg hMd,Jq]at hRd;obtain⟨g,hg⟩:=mA.1 hRd;obtain⟨_,od',_,_,aHt,_,_,h5,_⟩:=hE.early d g hg;rw[hd]at aHt;cases aHt;exact h5.2.2 e he hb
       .have aOe:=hI.ev (.tmp tc);rw[show(uj P ops M (List.range ops.size) st).ev (.tmp tc)=(uj P ops M (List.range ops.size) st).get tc from rfl,hbb]at aOe;obtain⟨aMl,hvt⟩:=(show _/\_ from aOe);obtain⟨lb2,aQk⟩:=mA.1 aMl;obtain⟨_,_,_,aHu,_⟩:=hI.bx bb lb2 aQk;refine⟨tc,G.hb bb,htc,fun j' oj' hj' hl'=>ayi aQj hj' ((hE.unM (ami hl' (by rw[hE.szR];exact hlt hj')) (hlt hj')).1),hvt,fun e=>hne ?_⟩;rw[e,aLp]at aHu;injection aHu with e2
        injection e2 with e2
        exact e2.symm
     .exact fin hi hr1 ⟨fun _=>True,.inr ⟨hw,rfl⟩,fun _ _ _ _ _=>trivial⟩
   .rename_i hpn;split at hr
    ·
     rename_i x o hx;obtain⟨h1,ho,mr,hkn⟩:=Zl hx;rw[<-kz]at h1;cases hEx:E x with
     |some g =>
      obtain⟨h2,o',d,obj,ho',Vf,Va,⟨aHv,anw,_⟩,htm,hh1,hh0⟩:=hE.early x g hEx;rw[ho]at ho';cases ho';obtain⟨_,_,aBB,_,_⟩:=Ry (C:=C) (N:=N) Vf;have hr1:jP P C (sd.Rm N) o (uj P ops M (List.range ops.size) st) (fun st=>Hu P C (sd.Rm N) ops m (M.setIfInBounds x true) st k)=some r:=by unfold acR at hr;rw[aBB]at hr;exact hr
      obtain⟨hg1,hg2,hg3⟩:=hI.hd g true obj hh1;have hI2:Inv {w0 with hd:=fun g'=>if g'=g then none else hd1 g'} G (uj P ops M (List.range ops.size) st) a w :=
       ⟨hI.nw,hI.rok,hI.below,hI.defers,hI.size,hI.sp,fun g' b o' hm=>hI.hd g' b o' (by
        dsimp only at hm;split at hm
        .cases hm
        .exact hm),hI.tm,hI.bx,hI.bl,hI.own⟩
      obtain⟨G1,uB,hi1,hr2,aQm⟩:=aHv hI2 hg1 (by simp) hg3 anw htm hr1;have hE':LU P C N ops w0.hd (fun g'=>if g'=g then none else hd1 g') (M.setIfInBounds x true) R (fun y=>if y=x then none else E y) a:=by
       refine⟨by simpa using hE.szM,hE.szR,fun i=>?_,fun y g' hy=>?_,fun y z g' hy hz=>?_,fun y ox d' hox hem hd' hRx=>?_,fun g' v hv=>?_⟩
       .by_cases hix:i=x
        .subst hix;rw[O2 (by rw[hE.szM];exact hlt ho),hE.rel,hEx];simp
        .rw[getD_set_ne false (Ne.symm hix),hE.rel,ah hix]
       .by_cases hyx:y=x
        .rw[ai hyx]at hy;cases hy
        .rw[ah hyx]at hy;obtain⟨q1,oy,dy,aMo,q2,q3,q4,q5,q6,q7,q8⟩:=hE.early y g' hy;refine⟨by rw[getD_set_ne false (Ne.symm hyx)];exact q1,oy,dy,aMo,q2,q3,q4,q5,q6,?_,q8⟩;have:g'≠g:=by rintro rfl;exact hyx (hE.inj y x g' hy hEx)
         rw[ah this];exact q7
       .split at hy
        .cases hy
        .split at hz
         .cases hz
         .exact hE.inj y z g' hy hz
       .exact hE.z y ox d' hox hem hd' hRx
       .have:g'≠g:=by rintro rfl;rw[hh0]at hv;cases hv
        rw[ah this];exact hE.hd g' v hv
      have hih:=ih (m+n) (by omega) m n rfl (M:=M.setIfInBounds x true) (R:=R) aMi hnt hE' (q0 _ hi1) hr2;exact xP n (fun l' w' _ hS'=>⟨hS'.1,fun g' hg' ho'=>hS'.2.1 g' hg' (aQm g' ho'),hS'.2.2⟩) hih
     |none =>
      have hxR:=hE.ready h1 hEx;have hun:=(mem_ready.1 hxR).1;cases n with
      |zero=>exact absurd (aDD (hlt ho) hun) (by omega)
      |succ n =>
       have aHw:∀{w':World},w.heap.size<=w'.heap.size->(∀g,g<w.heap.size->G.own g=none->w'.heap[g]?=w.heap[g]?)->∀{i:Nat} {oi:Oper},ops[i]?=some oi->i∈Region.ready .any ops R->(qX P C ops oi=true->Below w.heap.size w w')->avA C oi a w w'->SI P C ops G w a R (R.setIfInBounds i true) w':=by
        intro w' h1 h2 i oi hoi hi h3 h4;refine⟨h1,h2,fun hm=>?_,fun k hk hm=>?_⟩
        .cases hl:qX P C ops oi with
         |true=>exact h3 hl
         |false =>
          have:=hm i oi hoi hl;rw[CQ (by simp[hE.szR,hlt hoi]),O2 (by rw[hE.szR];exact hlt hoi),(mem_ready.1 hi).1]at this;cases this
        .cases hl:qX P C ops oi with
         |true=>exact(h3 hl).block k hk
         |false =>
          obtain⟨t,g,e1,_,e3,e4⟩:=hm i oi hoi hl (lg (mem_ready.1 hi).1) (O2 (by rw[hE.szR];exact hlt hoi));exact h4 t g k e1 e3 hk (Ne.symm e4)
       refine⟨fun h0=>by(rw[h0]at hxR;cases hxR),fun i hi=>?_⟩;obtain⟨aJ1,oi,hoi,atC⟩:=mem_ready.1 hi;have aOa:=aDC (hlt hoi) hE.szR aJ1;by_cases hix:i=x
       .subst hix;rw[ho]at hoi;cases hoi;unfold Go.wpOp;simp only[ho];rcases Zj hI.from hr with ⟨hw,uB,_,hi1,hr1⟩|⟨hw,G1,uB,hi1,hr1⟩
        .rw[hw];simp only[iA];refine .inl (Oper.wp_mono (fun a' w' h'=>?_) (aBw hCF hi1 hr1 (hE.fresh hi ho) (hE.dlt hfd hnt ho)));obtain⟨⟨⟨⟨G2,st2,hi2,hr2⟩,aQp⟩,aOf⟩,hsz,htm⟩:=h';obtain⟨hb1,hb2,hb3⟩:=hI.anx hi2;have hS1:=aHw hb2 (fun g hg ho=>(hb3 g hg ho).2) ho hi aQp aOf.2;have hih:=ih (m+n) (by omega) m n rfl (M:=M.setIfInBounds i true) (R:=R.setIfInBounds i true) (by omega) (hsz.trans hnt) (hE.next hfd ho hEx hun htm aOf.1) (q0 _ hb1) hr2;exact⟨hS1,xP n (fun l' w'' hs' hS'=>SI.step hE.szR hS1 (fun g hg ho=>(hb3 g hg ho).1) (fun t ht=>htm t (ht i o ho (lg hun))) (Sup.set hi) hs' hS') hih⟩
        .rw[hw];simp only[afN,hZ];obtain⟨hb1,hb2,hb3⟩:=hI.anx hi1;have hS1:=aHw (bZ _) (fun g hg ho=>rfl) ho hi (fun _=>Below.refl _ w) (.below (Below.refl _ w));have hih:=ih (m+n) (by omega) m n rfl (M:=M.setIfInBounds i true) (R:=R.setIfInBounds i true) (by omega) (by rw[<-hnt];cases o.dst<;>simp[Act.put])
          (hE.next hfd ho hEx hun (a':=a.put o.dst undef) (fun t ht=>by
           cases hd:o.dst with
           |none=>simp[Act.put]|some d=>exact oo (fun e=>ht (by rw[hd,e])) undef) fun hem=>by obtain⟨_,_,hgd,_⟩:=Ry (C:=C) (N:=N) (jR hem);simp[Region.wanted,hgd]at hw) (q0 _ hb1) hr1
         exact⟨hS1,xP n (fun l' w'' hs' hS'=>SI.step hE.szR hS1 (fun g hg ho=>(hb3 g hg ho).1) (fun t ht=>aBy a o undef t (ht i o ho (lg hun))) (Sup.set hi) hs' hS') hih⟩
       ·
        obtain⟨hiM,hEi⟩:=hE.unM aJ1 (hlt hoi);have Vf:dt P oi=true:=by
         cases Vf:dt P oi with
         |true=>rfl
         |false =>
          refine absurd (atA mr i (mem_ready.2 ⟨?_,oi,hoi,fun e he hb=>?_⟩)) hix
          .rw[CS hoi (.inl Vf)];exact hiM
          .have:=atC e he hb;rw[hE.rel,kE]at this;rcases this with hM|hEe
           .exact yD _ hM
           .obtain⟨g,hg⟩:=mA.1 hEe;obtain⟨_,oe,_,_,hoe,hfe,_⟩:=hE.early e.on g hg;refine CR hoe hfe (fun e'=>?_) _ (by rw[hE.szM];exact hlt hoe) (kb.2 (hlt hoe));rw[e',hEx]at hg;cases hg
        obtain⟨d,hd,aBB,JA,aHv⟩:=Ry (C:=C) (N:=N) Vf;have hpk:LR P (uj P ops M (List.range ops.size) st) oi=true:=by
         rcases anA hkn i (kb.2 (hlt hoi)) oi hoi Vf hiM with hw|hk
         .exfalso;obtain⟨e,he,hb,oe,hoe,hfe,hMe⟩:=aBx hw;have:=atC e he hb;rw[hE.rel,lg hMe,Jq]at this;obtain⟨g,hg⟩:=mA.1 this;obtain⟨_,oe',_,_,aOh,aOi,_⟩:=hE.early e.on g hg;rw[hoe]at aOh;cases aOh;rw[hfe]at aOi;cases aOi
         .exact hk
        obtain⟨obj,JA,anw⟩:=JA hI hpk;have aLr:∀(y:Nat) (oy:Oper),ops[y]?=some oy->dt P oy=true->(∀e∈oy.after,Region.binds .any e=true->R.getD e.on false=true)->acS oy d=true->False:=by intro y oy hoy hfy hdy hu;obtain⟨_,e,he,hb,hon⟩:=SH hfd hoy hfy hoi hd hu;have:=hdy e he hb;rw[hon,lg aJ1]at this;cases this
        obtain⟨aQq,aOj⟩:=yE hfd hoi Vf hd;have aMj:qX P C ops oi=true:=by unfold qX;rw[Vf];simp
        unfold Go.wpOp;simp only[hoi];rw[show Region.wanted oi (yielded ops a.tmps)=true by simp[Region.wanted,aBB]];simp only[iA];refine .inl (Jw JA ?_);have hB:Below w.heap.size w (w.alloc obj):=⟨rfl,rfl,rfl,by simp,fun k hk=>Below.heap_alloc _ _ _ hk⟩;have hS1:=aHw hB.size (fun g hg _=>hB.block g hg) hoi hi (fun _=>hB) (.below hB);have hI2:=(hI.aQc obj).aQb (aiK hoi Vf hiM hd _ st (kb.2 (hlt hoi))) (mkF oi w.heap.size);have hsz:(a.put oi.dst (mkF oi w.heap.size)).tmps.size=nt:=by rw[hd,<-hnt];simp[Act.put]
        have aJ2:(a.put oi.dst (mkF oi w.heap.size)).tmps.getD d undef=mkF oi w.heap.size:=by rw[hd];simp[Act.put,OP,hnt,aQq]
        have hE':LU P C N ops w0.hd (fun g=>if g=w.heap.size then some (true,obj) else hd1 g) M (R.setIfInBounds i true) (fun y=>if y=i then some w.heap.size else E y) (a.put oi.dst (mkF oi w.heap.size)):=by
         refine⟨hE.szM,by simpa using hE.szR,fun y=>?_,fun y g hy=>?_,fun y z g hy hz=>?_,fun y oy d' hoy hem hd' hRy=>?_,fun g v hv=>?_⟩
         .by_cases hyi:y=i
          .subst hyi;rw[O2 (by rw[hE.szR];exact hlt hoi),ai rfl];simp
          .rw[getD_set_ne false (Ne.symm hyi),hE.rel,ah hyi]
         .by_cases hyi:y=i
          .rw[ai hyi]at hy;cases hy;subst hyi;refine⟨lg hiM,oi,d,obj,hoi,Vf,hd,⟨aHv,anw.same fun t ht=>?_,fun e he hb=>getD_set_true (atC e he hb)⟩,aJ2,by simp,?_⟩
           .rw[hd];exact oo (fun e=>aLr y oi hoi Vf atC (by rw[<-e];exact ht)) _
           cases hz:w0.hd w.heap.size with
           |none=>rfl
           |some v =>
            obtain⟨b,ob⟩:=v;have:=(hI.hd _ _ _ (hE.hd _ _ hz)).2.1;omega
          .rw[ah hyi]at hy;obtain⟨q1,oy,dy,aMo,q2,q3,q4,q5,q6,q7,q8⟩:=hE.early y g hy;refine⟨q1,oy,dy,aMo,q2,q3,q4,⟨q5.1,q5.2.1.same fun t ht=>?_,fun e he hb=>getD_set_true (q5.2.2 e he hb)⟩,?_,?_,q8⟩
           .rw[hd];exact oo (fun e=>aLr y oy q2 q3 q5.2.2 (by rw[<-e];exact ht)) _
           .have hne:dy≠d:=fun e=>aOj y oy q2 hyi (by rw[q4,e])
            rw[hd,oo hne];exact q6
           .have:g≠w.heap.size:=Nat.ne_of_lt (hI.hd _ _ _ q7).2.1;rw[ah this];exact q7
         .by_cases hyi:y=i
          .rw[ai hyi]at hy;cases hy;by_cases hzi:z=i
           .rw[hyi,hzi]
           .rw[ah hzi]at hz;obtain⟨_,_,_,_,_,_,_,_,_,q7,_⟩:=hE.early z _ hz;exact absurd (hI.hd _ _ _ q7).2.1 (U0 _)
          .rw[ah hyi]at hy;by_cases hzi:z=i
           .rw[ai hzi]at hz;cases hz;obtain⟨_,_,_,_,_,_,_,_,_,q7,_⟩:=hE.early y _ hy;exact absurd (hI.hd _ _ _ q7).2.1 (U0 _)
           .rw[ah hzi]at hz;exact hE.inj y z g hy hz
         .by_cases hyi:y=i
          .subst hyi;rw[hoi]at hoy;cases hoy;rw[hd]at hd';cases hd';exact⟨_,aJ2.trans (anz hem _)⟩
          .rw[getD_set_ne false (Ne.symm hyi)]at hRy;have hne:d'≠d:=fun e=>aOj y oy hoy hyi (by rw[hd',e])
           rw[hd,oo hne];exact hE.z y oy d' hoy hem hd' hRy
         .obtain⟨b,ob⟩:=v;have hv1:=hE.hd g _ hv;have:g≠w.heap.size:=Nat.ne_of_lt (hI.hd _ _ _ hv1).2.1;rw[ah this];exact hv1
        have hih:=ih (m+1+n) (by omega) (m+1) n rfl (M:=M) (R:=R.setIfInBounds i true) (by omega) hsz hE' (by rw[hd]at *;exact hI2) X8;refine⟨hS1,xP n (fun l' w'' hs' hS'=>SI.step hE.szR hS1 (fun g hg ho=>?_) (fun t ht=>aBy a oi _ t (ht i oi hoi (lg aJ1))) (Sup.set hi) hs' hS') hih⟩;show(if g=w.heap.size then some Key.hid else G.own g)=none;rw[ah (Nat.ne_of_lt hg)];exact ho
    .cases hr
def arO (hC:∀f con,C f=some con->SG P w0 f con){Q:Exit->Act->World->Prop}(hQ:∀c a a' w,Q (.panic c) a w->Q (.panic c) a' w)(hs:Region.noSelect ops=true)(hfd:se P ops st.nt=true){k:St->Option U}(hK:sg w0 k r (Q .normal))
  (h:Inv w0 G st a w) (hr:Hu P C (sd.Rm N) ops ops.size (Array.replicate ops.size false) st k=some r):wpAny P .any ops Q ops.size (Array.replicate ops.size false) a w:=by
 refine anu _ _ _ _ (aHr (hd1:=w0.hd) (E:=fun _=>none) hC hQ hs hfd hK _ _ _ rfl ?_ h.size ⟨by simp,by simp,fun i=>(by simp),fun x g hx=>(by cases hx),fun x y g hx=>(by cases hx),fun x ox d _ _ _ hx=>absurd hx (by rw[aHq];simp),fun _ _ h=>h⟩ (q0 _ h) hr);refine cR List.countP_le_length ?_;simp
end
end
end Go.Am
