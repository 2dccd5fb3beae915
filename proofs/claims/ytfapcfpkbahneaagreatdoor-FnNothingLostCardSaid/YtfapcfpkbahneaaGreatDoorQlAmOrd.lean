/- Lemmas for the claim. No condition. -/
import Derived.Test.YtfapcfpkbahneaaGreatDoorQlAmDraw
import Derived.Test.YtfapcfpkbahneaaGreatDoorQlAmKeep
import Derived.OrdersHeld
set_option linter.all false
namespace Go.Am
open Go.RowKit
section
variable {N:Nat} {P:Program} {C:FuncId→Option Any} {w0:fK} {w:World} {G:Gh} {st:St} {a:Act} {α:Type} {r:α} {o:Oper}
def Sup (ops:Array Oper)(l l':Array Bool):Prop :=
 l.size=l'.size∧(∀i,l.getD i false=true→l'.getD i false=true) ∧
  ∀i o,ops[i]?=some o→l.getD i false=false→l'.getD i false=true→∀e∈o.after,Region.binds .any e=true→l'.getD e.on false=true
theorem Sup.refl (ops:Array Oper)(l:Array Bool):Sup ops l l:=⟨rfl,fun _ h=>h,fun _ _ _ h h'=>by rw[h]at h';cases h'⟩
theorem Sup.trans {ops:Array Oper}{a b c:Array Bool}(h:Sup ops a b)(k:Sup ops b c):Sup ops a c :=
 ⟨h.1.trans k.1,fun i hi=>k.2.1 i (h.2.1 i hi),fun i o ho h1 h2 e he hb=>by
  cases hx:b.getD i false with
  |true=>exact k.2.1 _ (h.2.2 i o ho h1 hx e he hb)
  |false=>exact k.2.2 i o ho hx h2 e he hb⟩
theorem Sup.set {ops:Array Oper}{l:Array Bool}{i:Nat}(hi:i∈Region.ready .any ops l):Sup ops l (l.setIfInBounds i true):=by
 refine⟨by simp,fun _ h=>getD_set_true h,fun j o ho h1 h2 e he hb=>?_⟩
 by_cases hij:i=j
 ·subst hij
  obtain⟨_,o',ho',nQ⟩:=mem_ready.1 hi
  rw[ho]at ho'
  cases ho'
  exact getD_set_true (nQ e he hb)
 ·rw[getD_set_ne false hij,h1]at h2
  cases h2
theorem Ck {l:Array Bool}{i:Nat}(h:i<l.size):l.getD i true=l.getD i false:=by
 simp[N2,h]
def Ny (P:Program)(ops:Array Oper)(Q:Exit→Act→World→Prop)(S:Array Bool→World→Prop):Nat→Array Bool→Act→World→Prop
 |0,l,a,w=>Region.ready .any ops l=[]∧Q .normal a w
 |n+1,l,a,w =>
  (Region.ready .any ops l=[]→Q .normal a w) ∧
  ∀i∈Region.ready .any ops l,wpOp P ops Q i (fun a' w'=>S (l.setIfInBounds i true) w'∧Ny P ops Q S n (l.setIfInBounds i true) a' w') a w
theorem ama {ops:Array Oper}{Q:Exit→Act→World→Prop}{S:Array Bool→World→Prop}:∀(n:Nat) (l:Array Bool) (a:Act) (w:World),Ny P ops Q S n l a w→wpAny P .any ops Q n l a w
 |0,_,_,_,h=>h
 |n+1,_,_,_,h=>⟨h.1,fun i hi=>wpOp_mono (fun a' w' h'=>ama n _ a' w' h'.2) (h.2 i hi)⟩
theorem xd {ops:Array Oper}{Q:Exit→Act→World→Prop}{S S':Array Bool→World→Prop}:∀(n:Nat) {l:Array Bool} {a:Act} {w:World},(∀l' w',Sup ops l l'→S' l' w'→S l' w')→Ny P ops Q S' n l a w→Ny P ops Q S n l a w
 |0,_,_,_,_,h=>h
 |n+1,l,_,_,hS,h=>⟨h.1,fun i hi=>wpOp_mono (fun a' w' h'=>⟨hS _ _ (Sup.set hi) h'.1,xd n (fun l' w' hs=>hS l' w' ((Sup.set hi).trans hs)) h'.2⟩) (h.2 i hi)⟩
theorem awu {ops:Array Oper}{Q:Exit→Act→World→Prop}{S:Array Bool→World→Prop}{l:Array Bool}{a:Act}{w:World}(hr:Region.ready .any ops l=[])(h:Q .normal a w):∀n,Ny P ops Q S n l a w
 |0=>⟨hr,h⟩
 |_+1=>⟨fun _=>h,by rw[hr];simp⟩
theorem atL {ops:Array Oper}{Q:Exit→Act→World→Prop}{S:Array Bool→World→Prop}{S0:World→Prop}{i:Nat}{oi:Oper}{v:Value}(hi:ops[i]?=some oi)
  (aLP:∀(j:Nat) (o:Oper) cs b,ops[j]?=some o→o.op≠.select cs b) (hQ:∀c a w,Q (.panic c) (a.put oi.dst v) w→Q (.panic c) a w) (hSi:∀l w,S (l.setIfInBounds i true) w↔S l w) :
  ∀(ai8:Nat) (l:Array Bool) (a:Act) (w:World),
   (∀j oj,ops[j]?=some oj→j≠i→l.getD j true=false→(∀e∈oj.after,Region.binds .any e=true→e.on≠i)→oi.apart ops oj=true) →
   i∈Region.ready .any ops l→YieldsIf P ops S0 oi v a→(∀l' w',Sup ops l l'→l'.getD i true=false→S l' w'→S0 w')→S l w →
   Ny P ops Q S ai8 (l.setIfInBounds i true) (a.put oi.dst v) w→Ny P ops Q S (ai8+1) l a w:=by
 intro ai8
 induction ai8 with
 |zero =>
  intro l a w _ hr hy hS0 hS H
  refine⟨fun h=>(by rw[h]at hr;cases hr),fun j hj=>?_⟩
  by_cases Yb:j=i
  ·subst Yb;exact hy.wpOp hi (hS0 l w (Sup.refl ops l) (mem_ready.1 hr).1 hS) ⟨(hSi l w).2 hS,H⟩
  ·have:=ready_mono hj Yb
   rw[H.1]at this
   cases this
 |succ ai8 ih =>
  intro l a w aBH hr hy hS0 hS H
  refine⟨fun h=>(by rw[h]at hr;cases hr),fun j hj=>?_⟩
  by_cases Yb:j=i
  ·subst Yb;exact hy.wpOp hi (hS0 l w (Sup.refl ops l) (mem_ready.1 hr).1 hS) ⟨(hSi l w).2 hS,H⟩
  ·have h1:=H.2 j (ready_mono hj Yb)
   obtain⟨aLQ,oj,hoj,nQ⟩:=mem_ready.1 hj
   have aE9:∀e∈oj.after,Region.binds .any e=true→e.on≠i:=fun e he hb heq=>by
    have h1:=nQ e he hb
    have h0:=(mem_ready.1 hr).1
    rw[heq]at h1
    rcases abM i l.size with h'|h'
    ·rw[Ck h']at h0;rw[h0]at h1;cases h1
    ·simp[Array.getElem?_eq_none h']at h1
   have h2:=wpOp_putIf hoj (aBH j oj hoj Yb aLQ aE9) (fun cs b=>aLP i oi cs b hi) (fun cs b=>aLP j oj cs b hoj) hQ hy h1
   have aJY:∀k ok,ops[k]?=some ok→k≠i→(l.setIfInBounds j true).getD k true=false →
     (∀e∈ok.after,Region.binds .any e=true→e.on≠i)→oi.apart ops ok=true:=fun k ok hk hki hun hno=>by
    refine aBH k ok hk hki ?_ hno
    by_cases hjk:j=k
    ·subst hjk;exact aLQ
    ·rw[getD_set_ne true hjk]at hun;exact hun
   refine wpOp_mono (fun a' w' h3=>?_) h2
   have hSj:S (l.setIfInBounds j true) w':=by
    have:=h3.2.1
    rw[Array.setIfInBounds_comm _ _ (Ne.symm Yb)]at this
    exact(hSi _ _).1 this
   refine⟨hSj,ih (l.setIfInBounds j true) a' w' aJY (ready_mono hr (Ne.symm Yb)) h3.1 (fun l' w'' hs=>hS0 l' w'' ((Sup.set hj).trans hs)) hSj ?_⟩
   rw[Array.setIfInBounds_comm _ _ Yb]
   exact h3.2.2
def Off (C:FuncId→Option Any)(ops:Array Oper)(a:Act)(l0:Array Bool)(k:Nat)(oc:Oper):Prop :=
 ∃t g,aeQ C oc=some t∧(∀j oj,ops[j]?=some oj→l0.getD j false=false→oj.dst≠some t)∧a.tmps.getD t undef=.pointer (some ⟨g,0,none⟩)∧g≠k
def SI (P:Program)(C:FuncId→Option Any)(ops:Array Oper)(G:Gh)(w:World)(a:Act)(l0 l:Array Bool)(w':World):Prop :=
 w.heap.size≤w'.heap.size∧(∀g,g<w.heap.size→G.own g=none→w'.heap[g]?=w.heap[g]?) ∧
  ((∀c oc,ops[c]?=some oc→qM P C ops oc=false→l.getD c true=l0.getD c true)→Below w.heap.size w w') ∧
  ∀k,k<w.heap.size→(∀c oc,ops[c]?=some oc→qM P C ops oc=false→l0.getD c false=false→l.getD c false=true→Off C ops a l0 k oc)→w'.heap[k]?=w.heap[k]?
theorem SI.refl {ops:Array Oper}(l0 l:Array Bool):SI P C ops G w a l0 l w:=⟨b9 _,fun _ _ _=>rfl,fun _=>Below.refl _ w,fun _ _ _=>rfl⟩
theorem SI.set {ops:Array Oper}{l0:Array Bool}{i:Nat}{oi:Oper}(hi:ops[i]?=some oi)(hl:qM P C ops oi=true)(l:Array Bool)(w':World):SI P C ops G w a l0 (l.setIfInBounds i true) w'↔SI P C ops G w a l0 l w':=by
 have ne:∀c oc,ops[c]?=some oc→qM P C ops oc=false→i≠c:=by
  intro c oc hc N1
  rintro rfl
  rw[hi]at hc
  cases hc
  rw[hl]at N1
  cases N1
 have key:∀c oc,ops[c]?=some oc→qM P C ops oc=false→(l.setIfInBounds i true).getD c true=l.getD c true:=fun c oc hc N1=>getD_set_ne true (ne c oc hc N1)
 have aLR:∀c oc,ops[c]?=some oc→qM P C ops oc=false→(l.setIfInBounds i true).getD c false=l.getD c false:=fun c oc hc N1=>getD_set_ne false (ne c oc hc N1)
 refine⟨fun h=>⟨h.1,h.2.1,fun hm=>h.2.2.1 fun c oc hc N1=>(key c oc hc N1).trans (hm c oc hc N1),fun k hk hm=>h.2.2.2 k hk fun c oc hc N1 h1 h2=>hm c oc hc N1 h1 (by rw[←aLR c oc hc N1];exact h2)⟩,
  fun h=>⟨h.1,h.2.1,fun hm=>h.2.2.1 fun c oc hc N1=>((key c oc hc N1).symm.trans (hm c oc hc N1)),fun k hk hm=>h.2.2.2 k hk fun c oc hc N1 h1 h2=>hm c oc hc N1 h1 (by rw[aLR c oc hc N1];exact h2)⟩⟩
theorem SI.step {ops:Array Oper}{l0 l1 l2:Array Bool}{w1 w2:World}{G1:Gh}{a1:Act}(h0:l0.size=ops.size)(h:SI P C ops G w a l0 l1 w1)(hG:∀g,g<w.heap.size→G.own g=none→G1.own g=none)
  (hst:∀t,(∀j oj,ops[j]?=some oj→l0.getD j false=false→oj.dst≠some t)→a1.tmps.getD t undef=a.tmps.getD t undef) (s1:Sup ops l0 l1) (s2:Sup ops l1 l2) (h2:SI P C ops G1 w1 a1 l1 l2 w2):SI P C ops G w a l0 l2 w2:=by
 refine⟨cT h.1 h2.1,fun g hg ho=>(h2.2.1 g (DM hg h.1) (hG g hg ho)).trans (h.2.1 g hg ho),fun hm=>?_,fun k hk hm=>?_⟩
 ·have mid:∀c oc,ops[c]?=some oc→qM P C ops oc=false→l1.getD c true=l0.getD c true:=by
   intro c oc hc N1
   have hlt:c<ops.size:=(AH.1 hc).1
   have e0:=hm c oc hc N1
   have l1s:l1.size=ops.size:=s1.1.symm.trans h0
   have l2s:l2.size=ops.size:=s2.1.symm.trans l1s
   rw[Ck (by omega),Ck (by omega)]at e0 ⊢
   cases hx:l0.getD c false with
   |true=>exact s1.2.1 c hx
   |false =>
    cases hy:l1.getD c false with
    |false=>rfl
    |true =>
     rw[s2.2.1 c hy,hx]at e0
     cases e0
  have b1:=h.2.2.1 mid
  have b2:=h2.2.2.1 fun c oc hc N1=>(hm c oc hc N1).trans (mid c oc hc N1).symm
  exact⟨b2.os.trans b1.os,b2.tape.trans b1.tape,b2.output.trans b1.output,cT b1.size b2.size,fun k hk=>(b2.block k (DM hk b1.size)).trans (b1.block k hk)⟩
 ·have aLS:∀c,l1.getD c false=false→l0.getD c false=false:=by
   intro c hc
   cases hx:l0.getD c false with
   |false=>rfl
   |true=>rw[s1.2.1 c hx]at hc;cases hc
  refine(h2.2.2.2 k (DM hk h.1) fun c oc hc N1 h3 h4=>?_).trans (h.2.2.2 k hk fun c oc hc N1 h3 h4=>hm c oc hc N1 h3 (s2.2.1 c h4))
  obtain⟨t,g,e1,e2,e3,e4⟩:=hm c oc hc N1 (aLS c h3) h4
  exact⟨t,g,e1,fun j oj hj hl=>e2 j oj hj (aLS j hl),(hst t e2).trans e3,e4⟩
theorem Inv.aDj (h:Inv w0 G st a w){d g:Nat}(hd:look st.bx d=none)(hdt:d<st.nt)(hg:G.own g=some .hid)(hno:w0.hd g=none){cs:Array Value}{e:TypeId}(hh:w.heap[g]?=some (.cells cs e (0,0))){l:List AC}
  (hl:cR (bN G w st.bx st.bl) l cs.toList) (htm:a.tmps.getD d undef=.pointer (some ⟨g,0,none⟩)) :
  Inv w0 (G.box d g) {(st.put d (.v (.c (.ptr d 0)))) with bx:=(d,l)::st.bx} a w:=by
 have hx:alI G w (G.box d g) w:=⟨rfl,rfl,b9 _,fun b hb ho=>⟨by
  have:b≠g:=by rintro rfl;rw[hg]at ho;cases ho
  simp[Gh.box,this,ho],rfl⟩⟩
 have hne:∀x,(look st.bx x).isSome=true→x≠d:=by
  rintro x hs rfl
  rw[hd]at hs
  cases hs
 have hs:kM G st.bx st.bl (G.box d g) ((d,l)::st.bx) st.bl:=by
  refine⟨fun x hs=>⟨xc _ trivial hs,by simp[Gh.box,hne x hs]⟩,fun id hd=>⟨hd,rfl,fun b' Cf=>⟨b',Cf,rfl⟩⟩⟩
 refine⟨h.nw,h.rok,h.below,h.defers,h.size,jW.mi hx hs h.sp,fun g' b o hm=>?_,fun t v hv=>?_,fun x m hm=>?_,fun id b hb=>?_,fun g' k hk=>?_⟩
 ·obtain⟨h1,h2,h3⟩:=h.hd g' b o hm
  refine⟨?_,h2,h3⟩
  have:g'≠g:=by rintro rfl;rw[hno]at hm;cases hm
  simp only[Gh.box,this,gV]
  exact h1
 ·simp only[St.put,aw]at hv
  by_cases ht:d=t
  ·subst ht
   rw[ak rfl]at hv
   cases hv
   rw[htm]
   exact⟨by simp[aw],by simp[Gh.box]⟩
  ·rw[ah ht]at hv
   exact jW.mi hx hs (h.tm t v hv)
 ·simp only[aw]at hm
  by_cases hxd:d=x
  ·subst hxd
   rw[ak rfl]at hm
   cases hm
   exact⟨cs,e,by simpa [Gh.box]using hh,by simp[Gh.box],hl.imp fun _ _=>bN.mi hx hs⟩
  ·rw[ah hxd]at hm
   obtain⟨cs',e',h1,h2,h3⟩:=h.bx x m hm
   have aEU:x≠d:=fun e=>hxd e.symm
   have hgn:G.hb x≠g:=by
    intro e3
    rw[e3,hg]at h2
    cases h2
   exact⟨cs',e',by simpa [Gh.box,aEU]using h1,by simp[Gh.box,aEU,hgn,h2],h3.imp fun _ _=>bN.mi hx hs⟩
 ·refine(h.bl id b hb).mi hx rfl fun hw g' hgo bG=>⟨?_,rfl⟩
  have:g'≠g:=by rintro rfl;rw[hg]at bG;cases bG
  simp[Gh.box,this,bG]
 ·by_cases he:g'=g
  ·subst he
   simp only[Gh.box,ik]at hk
   cases hk
   exact⟨(h.own g' _ hg).1,(h.own g' _ hg).2.1,by simp[aw],by simp[Gh.box]⟩
  ·simp only[Gh.box,he,gV]at hk
   obtain⟨h1,h2,h3⟩:=h.own g' k hk
   refine⟨h1,h2,?_⟩
   cases k with
   |hid=>trivial
   |bx x =>
    obtain⟨h4,h5⟩:=hs.bx x h3.1
    exact⟨h4,by rw[h5];exact h3.2⟩
   |bl id=>exact h3
def Gh.rowAt (G:Gh)(id g:Nat)(v:Value):Gh :=
 {nw:=G.nw,ok:=G.ok,hb:=G.hb,hv:=fun x=>if x=id then v else G.hv x,own:=fun x=>if x=g then some (.bl id) else G.own x}
theorem Inv.aDk (h:Inv w0 G st a w){d g:Nat}(hd:look st.bl (d*64)=none)(hdt:d<st.nt)(hg:G.own g=some .hid)(hno:w0.hd g=none){e:TypeId}{cs:List Value}(hh:w.heap[g]?=some (.cells cs.toArray e (0,0))){u:Ty}(hu:0<u.n){n:Nat}{xs:List u.D}{f:Bool}
  (hx1:xs.length=n) (hx2:cs.length=xs.length*u.n) (hx3:n≤maxLen) (E2:fM w (RO G f) u cs xs)
  (htm:a.tmps.getD d undef=.slice (some ⟨g,0,none⟩) n n) :
  Inv w0 (G.rowAt (d*64) g (.slice (some ⟨g,0,none⟩) n n)) {(st.put d (.v (.c (.own (d*64) none)))) with bl:=(d*64,some ⟨e,u,xs,f,true⟩)::st.bl} a w:=by
 have hx:alI G w (G.rowAt (d*64) g (.slice (some ⟨g,0,none⟩) n n)) w:=⟨rfl,rfl,b9 _,fun b hb ho=>⟨by
  have:b≠g:=by rintro rfl;rw[hg]at ho;cases ho
  simp[Gh.rowAt,this,ho],rfl⟩⟩
 have hne:∀x,(look st.bl x).isSome=true→x≠d*64:=by
  rintro x hs rfl
  rw[hd]at hs
  cases hs
 have hs:kM G st.bx st.bl (G.rowAt (d*64) g (.slice (some ⟨g,0,none⟩) n n)) st.bx ((d*64,some ⟨e,u,xs,f,true⟩)::st.bl):=by
  refine⟨fun x hs=>⟨hs,rfl⟩,fun id hs=>⟨xc _ trivial hs,by simp[Gh.rowAt,hne id hs],fun b' Cf=>?_⟩⟩
  rw[aw,ah (fun e=>hne id hs e.symm)]at Cf
  exact⟨b',Cf,rfl⟩
 refine⟨h.nw,h.rok,h.below,h.defers,h.size,jW.mi hx hs h.sp,fun g' b o hm=>?_,fun t v hv=>?_,fun x m hm=>?_,fun id b hb=>?_,fun g' k hk=>?_⟩
 ·obtain⟨h1,h2,h3⟩:=h.hd g' b o hm
  refine⟨?_,h2,h3⟩
  have:g'≠g:=by rintro rfl;rw[hno]at hm;cases hm
  simp only[Gh.rowAt,this,gV]
  exact h1
 ·simp only[St.put,aw]at hv
  by_cases ht:d=t
  ·subst ht
   rw[ak rfl]at hv
   cases hv
   rw[htm]
   exact⟨by simp[aw],⟨some ⟨g,0,none⟩,n,n,by simp[Gh.rowAt]⟩,by simp[Gh.rowAt]⟩
  ·rw[ah ht]at hv
   exact jW.mi hx hs (h.tm t v hv)
 ·obtain⟨cs',e',h1,h2,h3⟩:=h.bx x m hm
  have hgn:G.hb x≠g:=by
   intro e3
   rw[e3,hg]at h2
   cases h2
  exact⟨cs',e',h1,by simp[Gh.rowAt,hgn,h2],h3.imp fun _ _=>bN.mi hx hs⟩
 ·simp only[aw]at hb
  by_cases hi:d*64=id
  ·subst hi
   rw[ak rfl]at hb
   cases hb
   refine⟨fun _=>⟨cs,⟨hx2,.inr ⟨g,n,cs.toArray,by simp[Gh.rowAt,hx1],aV _,hh,by show xs.length≤n;omega,hx3,by simp[hx2,hx1],?_⟩⟩,fun g' hg'=>?_,E2.mi hx⟩,(fun hw=>by cases hw),hu⟩
   ·show List.take (xs.length*u.n) cs.toArray.toList=cs
    rw[←hx2]
    simp
   ·simp only[Gh.rowAt,ik,Value.ownBlock]at hg' ⊢
    cases hg'
    simp
  ·rw[ah hi]at hb
   have hi':id≠d*64:=fun e=>hi e.symm
   refine(h.bl id b hb).mi hx (by simp[Gh.rowAt,hi']) fun hw g' hgo bG=>⟨?_,rfl⟩
   have:g'≠g:=by rintro rfl;rw[hg]at bG;cases bG
   simp[Gh.rowAt,this,bG]
 ·by_cases he:g'=g
  ·subst he
   simp only[Gh.rowAt,ik]at hk
   cases hk
   exact⟨(h.own g' _ hg).1,(h.own g' _ hg).2.1,by simp[aw],by simp[Gh.rowAt,Value.ownBlock]⟩
  ·simp only[Gh.rowAt,he,gV]at hk
   obtain⟨h1,h2,h3⟩:=h.own g' k hk
   refine⟨h1,h2,?_⟩
   cases k with
   |hid=>trivial
   |bx x=>exact h3
   |bl id =>
    obtain⟨h4,h5,_⟩:=hs.bl id h3.1
    exact⟨h4,by rw[h5];exact h3.2⟩
theorem nR {d t:Nat}(h:t≠d)(u:Value):(a.put (some d) u).tmps.getD t undef=a.tmps.getD t undef:=by
 simp[Act.put,N2,aBe,Ne.symm h]
theorem Inv.aNW (h:Inv w0 G st a w){d:Nat}(hd:look st.tm d=none)(u:Value):Inv w0 G st (a.put (some d) u) w:=by
 refine {h with defers:=h.defers,size:=by simp[Act.put,h.size],tm:=fun t v hv=>?_}
 rw[nR (by rintro rfl;rw[hd]at hv;cases hv)]
 exact h.tm t v hv
theorem Inv.aNX (h:Inv w0 G st a w)(o:Obj) :
  Inv {w0 with hd:=fun g=>if g=w.heap.size then some (true,o) else w0.hd g} {G with own:=fun g=>if g=w.heap.size then some .hid else G.own g} st a (w.alloc o):=by
 have hne:∀b,b<w.heap.size→b≠w.heap.size:=fun b hb=>Nat.ne_of_lt hb
 have hold:∀b,b<w.heap.size→(w.alloc o).heap[b]?=w.heap[b]?:=fun b hb=>by
  show(w.heap.push o)[b]?=_
  rw[Array.getElem?_push,ah (hne b hb)]
 have hsz:(w.alloc o).heap.size=w.heap.size+1:=by
  show(w.heap.push o).size=_
  rw[Array.size_push]
 have hx:alI G w {G with own:=fun g=>if g=w.heap.size then some .hid else G.own g} (w.alloc o):=⟨rfl,rfl,by omega,fun b hb ho=>⟨by simp[hne b hb,ho],hold b hb⟩⟩
 have hs:kM G st.bx st.bl {G with own:=fun g=>if g=w.heap.size then some .hid else G.own g} st.bx st.bl:=⟨fun _ h=>⟨h,rfl⟩,fun _ h=>⟨h,rfl,fun b' Cf=>⟨b',Cf,rfl⟩⟩⟩
 refine⟨h.nw,h.rok,h.below.step rfl rfl rfl (by omega) fun k hk _=>hold k (DM hk h.below.size),h.defers,h.size,jW.mi hx hs h.sp,fun g b ob hm=>?_,fun t v hv=>jW.mi hx hs (h.tm t v hv),fun d l hl=>?_,fun id b hb=>?_,fun g k hk=>?_⟩
 ·dsimp only at hm
  by_cases hg:g=w.heap.size
  ·rw[ak hg]at hm
   cases hm
   subst hg
   exact⟨by simp[aBm],by omega,by show(w.heap.push o)[w.heap.size]?=_;rw[Array.getElem?_push,ak rfl]⟩
  ·rw[ah hg]at hm
   obtain⟨h1,h2,h3⟩:=h.hd g b ob hm
   exact⟨by simp[hg,h1],by omega,(hold g h2).trans h3⟩
 ·obtain⟨cs,e,h1,h2,h3⟩:=h.bx d l hl
  have hlt:=(h.own _ _ h2).2.1
  exact⟨cs,e,(hold _ hlt).trans h1,by simp[hne _ hlt,h2],h3.imp fun _ _=>bN.mi hx hs⟩
 ·exact DR.mi hx rfl (fun hw g hg ho=>by
   have hlt:=(h.own _ _ ho).2.1
   exact⟨by simp[hne _ hlt,ho],hold _ hlt⟩) (h.bl id b hb)
 ·dsimp only at hk
  by_cases hg:g=w.heap.size
  ·rw[ak hg]at hk
   cases hk
   exact⟨.inl (by rw[hg];exact h.below.size),by omega,trivial⟩
  ·rw[ah hg]at hk
   obtain⟨h1,h2,h3⟩:=h.own g k hk
   refine⟨h1,by omega,?_⟩
   cases k with
   |hid=>trivial
   |bx x=>exact h3
   |bl id=>exact h3
theorem Iw {β:Type}(t s:Nat):∀l:List (Nat×β),look (l.filter fun p=> !Nat.beq p.1 t) s=if s=t then none else look l s
 |[]=>by simp[look]
 |(k,v)::l=>by
  have ih:=Iw t s l
  by_cases hk:k=t
  ·have:(!Nat.beq (k,v).1 t)=false:=by simp[hk]
   rw[List.filter_cons_of_neg (by simp[this]),ih,aw]
   by_cases hs:s=t
   ·simp[hs]
   ·simp[hs,hk,Ne.symm hs]
  ·have hb:(!Nat.beq (k,v).1 t)=true:=by
    cases h:Nat.beq k t with
    |true=>exact absurd (aN h) hk
    |false=>simp[h]
   rw[List.filter_cons_of_pos (p:=fun p:Nat×β=> !Nat.beq p.1 t) hb,aw,aw,ih]
   by_cases hs:s=t
   ·simp[hs,hk]
   ·simp[hs]
theorem Inv.aHK (h:Inv w0 G st a w)(t:Tmp):Inv w0 G (st.drop t) a w:=by
 refine {h with tm:=fun s v hs=>h.tm s v ?_}
 unfold St.drop at hs
 dsimp only at hs
 rw[Iw]at hs
 split at hs
 ·cases hs
 ·exact hs
theorem qP {ops:Array Oper}{l:Array Bool}:∀(is:List Nat) {st:St},Inv w0 G st a w→Inv w0 G (tO P ops l is st) a w
 |[],_,h=>h
 |i::is,st,h=>by
  unfold tO
  split
  ·split
   ·exact(qP is h).aHK _
   ·exact qP is h
  ·exact qP is h
theorem ahA {ops:Array Oper}{l:Array Bool}{x:Nat}{o:Oper}{d:Tmp}(ho:ops[x]?=some o)(hf:dn P o=true)(hl:l.getD x true=false)(hd:o.dst=some d):∀(is:List Nat) (st:St),x∈is→look (tO P ops l is st).tm d=none
 |[],_,h=>by cases h
 |i::is,st,h=>by
  unfold tO
  rcases gU.1 h with rfl|h
  ·rw[ho]
   simp only[hf,hl,hd,eZ,Bool.and_self]
   show look (List.filter _ _) d=none
   rw[Iw,ak rfl]
  ·have ih:=ahA ho hf hl hd is st h
   split
   ·split
    ·show look (List.filter _ _) d=none
     rw[Iw]
     split
     ·rfl
     ·exact ih
    ·exact ih
   ·exact ih
def mkF (o:Oper)(g:Nat):Value:=match o.op with
 |.alloc _=>.pointer (some ⟨g,0,none⟩)
 |.buildSlice _ len _=>.slice (some ⟨g,0,none⟩) len len
 |_=>undef
def amb (P:Program)(o:Oper)(a:Act)(obj:Obj):Prop:=match o.op with
 |.alloc t=>∃i v,P.info? t=some i∧i.zero=some v∧obj=.cells v.cells t (0,0)
 |.buildSlice t _ parts=>∃e,DP P t=some e∧obj=.cells (ae0 a parts.toList).toArray e (0,0)
 |_=>False
theorem ahB {a a':Act}:∀{l:List (Nat×Operand)},(∀p∈l,∀s,p.2=.tmp s→a'.tmps.getD s undef=a.tmps.getD s undef)→ae0 a' l=ae0 a l
 |[],_=>rfl
 |(j,x)::l,h=>by
  have h1:a'.eval x=a.eval x:=by
   cases x with
   |tmp s=>exact h (j,.tmp s) (by simp) s rfl
   |_=>rfl
  simp only[ae0,h1,ahB fun p hp=>h p (pW _ hp)]
theorem amb.same {a a':Act}{obj:Obj}(h:amb P o a obj)(ha:∀t,abR o t=true→a'.tmps.getD t undef=a.tmps.getD t undef):amb P o a' obj:=by
 unfold amb at h ⊢
 unfold abR at ha
 split at h
 ·exact h
 ·rename_i t len parts ho
  simp only[ho]at ha
  obtain⟨e,h1,h2⟩:=h
  refine⟨e,h1,?_⟩
  rw[ahB (a:=a)]
  ·exact h2
  ·intro p hp s hs
   exact ha s (List.any_eq_true.2 ⟨p,hp,by rw[hs];simp⟩)
 ·exact h
def aI8 (P:Program)(C:FuncId→Option Any)(N:Nat)(o:Oper)(d:Tmp):Prop :=
 ∀{w0:fK} {G:Gh} {st:St} {a:Act} {w:World} {g:Nat} {obj:Obj} {α:Type} {k:St→Option α} {r:α},Inv w0 G st a w→G.own g=some .hid→w0.hd g=none→w.heap[g]?=some obj→amb P o a obj→a.tmps.getD d undef=mkF o g →
  jC P C (rQ.Qw N) o st k=some r→∃G' dL,Inv w0 G' dL a w∧k dL=some r∧(∀b,G.own b=none→G'.own b=none)
theorem ace:∀{l:List AC} {st:St},xa l=true→st.freeze l=st
 |[],_,_=>rfl
 |c::l,st,h=>by
  have h1:st.ey c=st:=by cases c<;>first|rfl|(simp[xa]at h)
  have h2:xa l=true:=by cases c<;>first|exact h|(simp[xa]at h)
  show List.foldl St.ey (st.ey c) l=st
  rw[h1]
  exact ace h2
theorem arX {l m:List AC}(h1:xa l=true)(h2:xa m=true):xa (l++m)=true:=by
 induction l with
 |nil=>exact h2
 |cons c l ih=>cases c<;>first|exact ih h1|(simp[xa]at h1)
theorem aal:∀{t:Ty} {l r:List AC} {x:t.D},flat t=true→im st t l=some (x,r)→∃p,l=p++r∧xa p=true
 |.int k,[],_,_,_,h=>by simp[im]at h
 |.int k,c::l,_,_,_,h=>by
  cases c<;>simp[im]at h
  exact⟨[_],by rw[h.2.2];rfl,rfl⟩
 |.bool,[],_,_,_,h=>by simp[im]at h
 |.bool,c::l,_,_,_,h=>by
  cases c<;>simp[im]at h
  exact⟨[_],by rw[h.2];rfl,rfl⟩
 |.str,[],_,_,_,h=>by simp[im]at h
 |.str,c::l,_,_,_,h=>by
  cases c<;>simp[im]at h
  exact⟨[_],by rw[h.2];rfl,rfl⟩
 |.unit,l,r,x,_,h=>by
  simp only[im]at h
  cases h
  exact⟨[],rfl,rfl⟩
 |.pair t u,l,r,x,hf,h=>by
  simp only[flat,aJ]at hf
  simp only[im]at h
  split at h
  ·rename_i y r1 h1
   split at h
   ·rename_i z r2 h2
    cases h
    obtain⟨p,e1,n1⟩:=aal hf.1 h1
    obtain⟨q,e2,n2⟩:=aal hf.2 h2
    exact⟨p++q,by rw[e1,e2,iK],arX n1 n2⟩
   ·cases h
  ·cases h
 |.sl _ _,_,_,_,hf,_=>by simp[flat]at hf
theorem arY {u:Ty}(hf:flat u=true):∀{l:List (Nat×Operand)} {i:Nat} {xs:List u.D},jk st u i l=some xs→xa (cZ st l)=true
 |[],_,_,_=>rfl
 |(j,x)::l,i,xs,h=>by
  simp only[jk]at h
  split at h
  ·split at h
   ·rename_i y hy
    split at h
    ·rename_i ys hys
     obtain⟨p,e,n⟩:=aal hf hy
     rw[gE]at e
     exact arX (by rw[e];exact n) (arY hf hys)
    ·cases h
   ·cases h
  ·cases h
theorem QH (hf:dn P o=true):∃d,o.dst=some d∧o.guard=none∧(∀{w0:fK} {G:Gh} {st:St} {a:Act} {w:World},Inv w0 G st a w→KZ P st o=true→∃obj,(execOp a.eval o).run P w=.ok (.value (mkF o w.heap.size)) (w.alloc obj)∧amb P o a obj)∧aI8 P C N o d:=by
 unfold dn at hf
 split at hf
 ·rename_i d t hg hd ho
  split at hf
  ·rename_i z hz
   obtain⟨i,v,hi,hv,rfl⟩:=jD hz
   refine⟨d,hd,hg,fun _ _=>⟨.cells v.cells t (0,0),?_,?_⟩,?_⟩
   ·unfold execOp mkF
    rw[ho]
    simp[Instr.alloc,zeroValue,typeInfo,hi,hv,A8]
   ·unfold amb
    rw[ho]
    exact⟨i,v,hi,hv,rfl⟩
   ·intro w0 G st a w g obj α k r h hg' hno hh amc htm hr
    unfold amb at amc
    simp only[ho]at amc
    obtain⟨i',v',hi',hv',rfl⟩:=amc
    rw[hi]at hi'
    cases hi'
    rw[hv]at hv'
    cases hv'
    simp only[jC,ho,hd,hz]at hr
    split at hr
    ·rename_i hb
     obtain⟨hc,hk⟩:=aX hr
     rw[aJ]at hc
     refine⟨_,_,h.aDj hb (ir hc.1) hg' hno hh ((qN v).cells hc.2) (by rw[htm];unfold mkF;rw[ho]),hk,fun b hb=>?_⟩
     have:b≠g:=by rintro rfl;rw[hg']at hb;cases hb
     simp[Gh.box,this,hb]
    ·cases hr
  ·cases hf
 ·rename_i d t len parts hg hd ho
  split at hf
  ·rename_i e he
   split at hf
   ·rename_i u hu
    simp only[aJ]at hf
    obtain⟨⟨h1,h2⟩,⟨⟨⟨h3,h4⟩,h6⟩,h5⟩⟩:=hf
    have hlen:=aN h2
    have hp:0<u.n:=TQ (bI h4)
    have h16:=E1 h6
    obtain⟨i,hi,his⟩:=pr (aN h3) hp
    obtain⟨z,hz⟩:=mg.1 h5
    obtain⟨i',zv,hi',hiz,_⟩:=jD hz
    rw[hi]at hi'
    cases hi'
    have hut:P.underlying t=some (.slice e):=by
     unfold DP at he
     split at he
     ·rename_i e' hu;cases he;exact hu
     ·cases he
    refine⟨d,hd,hg,?_,?_⟩
    ·intro w0 G st a w h hkn
     unfold KZ at hkn
     simp only[ho,he,hu]at hkn
     obtain⟨xs,hl⟩:=mg.1 hkn
     have att:((Array.range (len*u.n)).map (fun q=>(if len*u.n=0 then #[] else zv.cells)[q%(if len*u.n=0 then #[] else zv.cells).size]!)).size=(0+parts.toList.length)*u.n:=by
      simp[←hlen]
     obtain⟨cs,T8,hcl,hxl,E2,hpv⟩:=Ub (ok:=fun _=>True) h hp parts.toList 0 _ xs (fun t c v ys _=>Ud h t c v ys) att hl
     simp only[alz,List.take_zero,AI]at T8
     refine⟨.cells cs.toArray e (0,0),?_,?_⟩
     ·unfold execOp mkF
      rw[ho]
      dsimp only
      have:=IZ (P:=P) (w:=w) hut hi hiz (len:=len) (parts:=parts.map fun (i,x)=>(i,a.eval x)) (cells:=cs.toArray) (by rw[his];omega) (by rw[his,abI];exact T8)
      simp only[Sem.run_bind,this,Result.andThen_ok]
      rfl
     ·unfold amb
      rw[ho]
      exact⟨e,he,by rw[hpv]⟩
    ·intro w0 G st a w g obj α k r h hg' hno hh amc htm hr
     unfold amb at amc
     simp only[ho]at amc
     obtain⟨e',he',rfl⟩:=amc
     rw[he]at he'
     cases he'
     simp only[jC,ho,hd,he,hu]at hr
     split at hr
     ·rename_i xs hl
      split at hr
      ·rename_i Oe
       have att:((Array.range (len*u.n)).map (fun q=>(if len*u.n=0 then #[] else zv.cells)[q%(if len*u.n=0 then #[] else zv.cells).size]!)).size=(0+parts.toList.length)*u.n:=by
        simp[←hlen]
       obtain⟨cs,_,hcl,hxl,E2,hpv⟩:=Ub (ok:=fun _=>True) h hp parts.toList 0 _ xs (fun t c v ys _=>Ud h t c v ys) att hl
       have hfz:xa (cZ st parts.toList)=true:=by
        rw[mh]at h1
        rcases h1 with h1|h1
        ·exact arY h1 hl
        ·have h0:=aN h1
         have:parts.toList=[]:=X6 (by omega)
         rw[this]
         rfl
       have aLT:fM w (RO G (cW (cZ st parts.toList))) u cs xs:=by
        rw[mh]at h1
        rcases h1 with h1|h1
        ·exact alV h1 E2
        ·have h0:=aN h1
         have:xs=[]:=X6 (by omega)
         subst this
         exact fun j x hj=>by simp at hj
       rw[ace hfz]at hr
       unfold St.row at hr
       split at hr
       ·cases hr
       ·rename_i hb
        obtain⟨hc,hk⟩:=aX hr
        rw[←hpv]at hh
        have hle:len≤len*u.n:=asZ _ hp
        have hmax:maxLen=9223372036854775807:=rfl
        refine⟨_,_,Inv.aDk (e:=e) (u:=u) (n:=len) h hb (ir hc) hg' hno hh hp (by omega) hcl (by omega) aLT (by rw[htm];unfold mkF;rw[ho]),hk,fun b hb=>?_⟩
        have:b≠g:=by rintro rfl;rw[hg']at hb;cases hb
        simp[Gh.rowAt,this,hb]
      ·cases hr
     ·cases hr
   ·cases hf
  ·cases hf
 ·cases hf
theorem aDl {k:St→Option α}(hf:dn P o=true)(hr:jC P C (rQ.Qw N) o st k=some r):KZ P st o=true:=by
 unfold dn at hf
 split at hf
 ·rename_i d t hg hd ho
  unfold KZ
  rw[ho]
 ·rename_i d t len parts hg hd ho
  unfold KZ
  simp only[ho]
  simp only[jC,ho,hd]at hr
  split at hf
  ·rename_i e he
   split at hf
   ·rename_i u hu
    simp only[he,hu]at hr ⊢
    split at hr
    ·rename_i xs hl
     rw[hl]
     rfl
    ·cases hr
   ·cases hf
  ·cases hf
 ·cases hf
def fK.from (w0:fK)(G:Gh)(w:World)(h1:w0.w.heap.size≤w.heap.size)(h2:∀g k,G.own g=some k→w0.nw g):fK where
 w:=w
 ok:=w0.ok
 nw:=w0.nw
 fr g:=(G.own g).isSome=true
 hnw b hb:=w0.hnw b (cT h1 hb)
 hfr b hb:=by
  obtain⟨k,hk⟩:=mg.1 hb
  exact h2 b k hk
 pv:=w0.pv
 hd g:=match w0.hd g with
  |some x=>some x
  |none=>match G.own g with
   |none=>(w.heap[g]?).map fun o=>(false,o)
   |some _=>none
theorem Inv.aLU (h:Inv w0 G st a w):∀g k,G.own g=some k→w0.nw g:=fun g k hk=>by
 rw[←h.nw]
 exact h.T2 hk
abbrev Inv.root (h:Inv w0 G st a w):fK:=w0.from G w h.below.size h.aLU
theorem Inv.from (h:Inv w0 G st a w):Inv h.root G st a w:=by
 refine⟨h.nw,h.rok,fE.refl _ _,h.defers,h.size,h.sp,fun g b o hm=>?_,h.tm,h.bx,h.bl,fun g k hk=>?_⟩
 ·simp only[Inv.root,fK.from]at hm
  split at hm
  ·rename_i x hx
   cases hm
   exact h.hd g b o hx
  ·split at hm
   ·rename_i hg
    cases hh:w.heap[g]? with
    |none=>rw[hh]at hm;cases hm
    |some o' =>
     rw[hh]at hm
     cases hm
     exact⟨hg,(AH.1 hh).1,rfl⟩
   ·cases hm
 ·obtain⟨_,h2,h3⟩:=h.own g k hk
  exact⟨.inr (by simp[Inv.root,fK.from,hk]),h2,h3⟩
theorem Inv.Be (h:Inv w0 G st a w){w1:World}(hk:fE h.root.fr w w1):fE w0.fr w0.w w1 :=
 h.below.step hk.os hk.tape hk.output hk.size fun k hk1 hk2=>hk.block k (DM hk1 h.below.size) fun hfr=>by
  obtain⟨q,hq⟩:=mg.1 (show(G.own k).isSome=true from hfr)
  rcases(h.own k q hq).1 with h1|h1
  ·omega
  ·exact hk2 h1
theorem Inv.amd (h:Inv w0 G st a w){G':Gh}{dL:St}{a':Act}{w':World}(h':Inv h.root G' dL a' w') :
  Inv w0 G' dL a' w'∧w.heap.size≤w'.heap.size∧∀g,g<w.heap.size→G.own g=none→G'.own g=none∧w'.heap[g]?=w.heap[g]?:=by
 refine⟨⟨h'.nw,h'.rok,h.Be h'.below,h'.defers,h'.size,h'.sp,fun g b o hm=>h'.hd g b o ?_,h'.tm,h'.bx,h'.bl,fun g k hk=>?_⟩,h'.below.size,fun g hg ho=>?_⟩
 ·simp only[Inv.root,fK.from,hm]
 ·obtain⟨h1,h2,h3⟩:=h'.own g k hk
  refine⟨?_,h2,h3⟩
  rcases h1 with h1|h1
  ·exact .inl (cT h.below.size h1)
  ·obtain⟨q,hq⟩:=mg.1 (show(G.own g).isSome=true from h1)
   exact(h.own g q hq).1
 ·cases hx:w0.hd g with
  |some x =>
   obtain⟨b,o⟩:=x
   obtain⟨h1,h2,h3⟩:=h.hd g b o hx
   obtain⟨h4,h5,h6⟩:=h'.hd g b o (by simp only[Inv.root,fK.from,hx])
   cases b with
   |true =>
    rw[ho]at h1
    cases h1
   |false=>exact⟨h4,h6.trans h3.symm⟩
  |none =>
   have hh:w.heap[g]?=some w.heap[g]:=ayS hg
   obtain⟨h4,h5,h6⟩:=h'.hd g false w.heap[g] (by simp only[Inv.root,fK.from,hx,ho,hh,Option.map_some])
   exact⟨h4,h6.trans hh.symm⟩
theorem Inv.aLV (h:Inv w0 G st a w){f:FuncId}{con:Any}(hc:RJ P w0 f con):RJ P h.root f con:=by
 cases con with
 |one c=>exact⟨hc.1,fun x r hg w1 hk=>hc.2 x r hg w1 (h.Be hk)⟩
 |idx i=>exact⟨hc.1,fun W hk=>hc.2 W (h.Be hk)⟩
 |ins e u=>exact⟨hc.1,fun W hk=>hc.2 W (h.Be hk)⟩
 |del e u=>exact⟨hc.1,fun W hk=>hc.2 W (h.Be hk)⟩
 |sel c =>
  refine⟨hc.1,hc.2.1,fun x r hg w1 hk ok nw own g0 vs u hh ha=>hc.2.2 x r hg w1 (h.Be hk) ok nw own g0 vs u ⟨hh.mj,fun g j hj=>?_,hh.dS⟩ ha⟩
  obtain⟨h1,h2,h3⟩:=hh.bG g j hj
  refine⟨h1,h2,?_⟩
  rcases h3 with h3|h3
  ·exact .inl (cT h.below.size h3)
  ·obtain⟨q,hq⟩:=mg.1 (show(G.own g).isSome=true from h3)
   exact(h.own g q hq).1
 |two c =>
  refine⟨hc.1,hc.2.1,fun x r hg w1 hk ok nw own g0 vs u hh ha=>hc.2.2 x r hg w1 (h.Be hk) ok nw own g0 vs u ⟨hh.mj,fun g j hj=>?_,hh.dS⟩ ha⟩
  obtain⟨h1,h2,h3⟩:=hh.bG g j hj
  refine⟨h1,h2,?_⟩
  rcases h3 with h3|h3
  ·exact .inl (cT h.below.size h3)
  ·obtain⟨q,hq⟩:=mg.1 (show(G.own g).isSome=true from h3)
   exact(h.own g q hq).1
theorem aHL {K:Act→World→Prop}{Q:Exit→Act→World→Prop}(h:o.wp P a w K Q) :
  o.wp P a w (fun a' w'=>K a' w'∧a'.tmps.size=a.tmps.size∧∀t,o.dst≠some t→a'.tmps.getD t undef=a.tmps.getD t undef) Q:=by
 have key:∀(b:Act) u,b.tmps=a.tmps→(b.put o.dst u).tmps.size=a.tmps.size∧∀t,o.dst≠some t→(b.put o.dst u).tmps.getD t undef=a.tmps.getD t undef:=by
  intro b u hb
  cases hd:o.dst with
  |none=>exact⟨by simp[Act.put,hb],fun t _=>by simp[Act.put,hb]⟩
  |some d =>
   refine⟨by simp[Act.put,hb],fun t ht=>?_⟩
   have hne:t≠d:=fun e=>ht (by rw[e])
   rw[nR hne,hb]
 unfold Oper.wp Oper.upon at h ⊢
 split at h
 ·exact⟨h,key a _ rfl⟩
 ·exact⟨h,key a _ rfl⟩
 ·exact⟨h,key _ _ rfl⟩
 ·refine Calls.mono h fun e w' he=>?_
  cases e with
  |returned v=>exact⟨he,key a _ rfl⟩
  |panicked c=>exact he
  |_=>exact he
 ·exact Rows.mono h fun v w' he=>⟨he,key a _ rfl⟩
 all_goals exact h
theorem I3 (hc:pR P o=true):dn P o=false:=by
 unfold dn
 split
 ·rename_i ho
  simp[pR,ho]at hc
 ·rename_i ho
  simp[pR,ho]at hc
 ·rfl
theorem aDm {k:St→Option α}(h:Inv w0 G st a w)(hr:jC P C (rQ.Qw N) o st k=some r)(hm:atg o=true) :
  ∃v ob,(execOp a.eval o).run P w=.ok (.value v) (w.alloc ob):=by
 unfold atg at hm
 split at hm
 ·rename_i t ho
  simp only[jC,ho]at hr
  split at hr
  ·split at hr
   ·split at hr
    ·rename_i z hz
     obtain⟨i,v,hi,hv,rfl⟩:=jD hz
     refine⟨.pointer (some ⟨w.heap.size,0,none⟩),.cells v.cells t (0,0),?_⟩
     unfold execOp
     rw[ho]
     simp[Instr.alloc,zeroValue,typeInfo,hi,hv,A8]
    ·cases hr
   ·cases hr
  ·cases hr
 ·rename_i t x ho
  refine⟨.pointer (some ⟨w.heap.size,0,none⟩),.cells (a.eval x).cells t (0,0),?_⟩
  unfold execOp
  rw[ho]
  simp[Instr.box,A8]
 ·rename_i t len parts ho
  simp only[jC,ho]at hr
  split at hr
  ·rename_i d e hd he
   split at hr
   ·rename_i u hu
    split at hr
    ·rename_i xs hl
     split at hr
     ·rename_i hc
      obtain⟨cs,hx⟩:=ai6 h t len parts ho he hl hc
      exact⟨_,_,hx⟩
     ·cases hr
    ·cases hr
   ·cases hr
  ·cases hr
 ·cases hm
theorem aFq {ops:Array Oper}{k:St→Option α}(h:Inv w0 G st a w)(hr:jC P C (rQ.Qw N) o st k=some r){t:Tmp}(ht:Z5 o=some t){g0:Nat}(hs0:a.tmps.getD t undef=.slice (some ⟨g0,0,none⟩) 0 0) :
  ∃v w',(execOp a.eval o).run P w=.ok (.value v) w'∧Below w.heap.size w w':=by
 unfold Z5 at ht
 split at ht
 ·rename_i args ts ho
  split at ht
  ·rename_i t' y t1 t2 ha hts
   split at ht
   ·rename_i hb
    cases ht
    have:=aN hb
    subst this
    simp only[jC,ho]at hr
    split at hr
    ·rename_i d s x t1' t2' hd ha' aLW
     rw[ha]at ha'
     rw[hts]at aLW
     cases ha'
     cases aLW
     split at hr
     ·rename_i e he
      split at hr
      ·rename_i u z hu hz
       exact azj h ho ha hts he hz (d:=d) hs0 hr
      ·cases hr
     ·cases hr
    ·cases hr
   ·cases ht
  ·cases ht
 ·cases ht
theorem jE (h:GP P o=true):dn P o=true:=by
 unfold GP at h
 rw[aJ]at h
 exact h.1
theorem ame (h:GP P o=true)(g:Nat):mkF o g=.slice (some ⟨g,0,none⟩) 0 0:=by
 unfold GP at h
 rw[aJ]at h
 unfold mkF
 split at h
 ·rename_i ho
  rw[ho]
 ·cases h.2
def atM (C:FuncId→Option Any)(o:Oper)(a:Act)(w w':World):Prop :=
 ∀t g k,aeQ C o=some t→a.tmps.getD t undef=.pointer (some ⟨g,0,none⟩)→k<w.heap.size→k≠g→w'.heap[k]?=w.heap[k]?
theorem atM.below {w':World}(h:Below w.heap.size w w'):atM C o a w w':=fun _ _ k _ _ hk _=>h.block k hk
theorem azv {ops:Array Oper}{Q:Exit→Act→World→Prop}{k:St→Option α}(hC:∀f con,C f=some con→RJ P w0 f con)(h:Inv w0 G st a w)(hr:jC P C (rQ.Qw N) o st k=some r)
  (hz:∀t,Z5 o=some t→N6 P ops o=true→∃g,a.tmps.getD t undef=.slice (some ⟨g,0,none⟩) 0 0) (hdl:∀d,dn P o=true→o.dst=some d→d<a.tmps.size) :
  o.wp P a w (fun a' w'=>(((∃G' dL,Inv w0 G' dL a' w'∧k dL=some r)∧(qM P C ops o=true→Below w.heap.size w w'))∧(GP P o=true→∀d,o.dst=some d→∃g,a'.tmps.getD d undef=.slice (some ⟨g,0,none⟩) 0 0)∧atM C o a w w')∧a'.tmps.size=a.tmps.size∧∀t,o.dst≠some t→a'.tmps.getD t undef=a.tmps.getD t undef) Q:=by
 refine aHL ?_
 have hK:rT w0 k r (fun a' w'=>∃G' dL,Inv w0 G' dL a' w'∧k dL=some r):=fun G' dL a' w' h' lK=>⟨G',dL,h',lK⟩
 by_cases hl:qM P C ops o=true
 ·by_cases hc:pR P o=true
  ·obtain⟨v,G',dL,he,hi,hk⟩:=aak hc h hr
   exact IU (he w (xZ (Below.refl _ w))) ⟨⟨⟨G',dL,hi,hk⟩,fun _=>Below.refl _ w⟩,fun hem=>absurd (jE hem) (by rw[I3 hc];simp),.below (Below.refl _ w)⟩
  ·by_cases hf:dn P o=true
   ·obtain⟨d,hd,hg,he,_⟩:=QH (C:=C) (N:=N) hf
    obtain⟨obj,he,_⟩:=he h (aDl hf hr)
    have:=DV (Q:=Q) hC h hr hK
    unfold Oper.wp at this ⊢
    rw[he]at this ⊢
    refine⟨⟨this,fun _=>⟨rfl,rfl,rfl,by simp,fun k hk=>Below.heap_alloc _ _ _ hk⟩⟩,fun hem d' hd'=>⟨w.heap.size,?_⟩,.below ⟨rfl,rfl,rfl,by simp,fun k hk=>Below.heap_alloc _ _ _ hk⟩⟩
    have hlt:=hdl d' hf hd'
    rw[hd',ame hem]
    simp[Act.put,N2,hlt]
   ·by_cases hm:atg o=true
    ·obtain⟨v,ob,he⟩:=aDm h hr hm
     have:=DV (Q:=Q) hC h hr hK
     unfold Oper.wp at this ⊢
     rw[he]at this ⊢
     exact⟨⟨this,fun _=>⟨rfl,rfl,rfl,by simp,fun k hk=>Below.heap_alloc _ _ _ hk⟩⟩,fun hem=>absurd (jE hem) hf,.below ⟨rfl,rfl,rfl,by simp,fun k hk=>Below.heap_alloc _ _ _ hk⟩⟩
    by_cases hfa:N6 P ops o=true
    ·obtain⟨t,ht⟩:∃t,Z5 o=some t:=by
      cases hx:Z5 o with
      |none=>simp[N6,hx]at hfa
      |some t=>exact⟨t,rfl⟩
     obtain⟨g,hg⟩:=hz t ht hfa
     obtain⟨v,w',he,hB⟩:=aFq (ops:=ops) h hr ht hg
     have:=DV (Q:=Q) hC h hr hK
     unfold Oper.wp at this ⊢
     rw[he]at this ⊢
     exact⟨⟨this,fun _=>hB⟩,fun hem=>absurd (jE hem) hf,.below hB⟩
    have hcall:ay4 C o=true:=by
     unfold qM at hl
     simp only[mh]at hl
     rcases hl with (((hl|hl)|hl)|hl)|hl
     ·exact absurd hl hc
     ·exact absurd hl hf
     ·exact hl
     ·exact absurd hl hm
     ·exact absurd hl hfa
    unfold ay4 at hcall
    split at hcall
    ·rename_i f args ts ct
     simp only[jC,ct]at hr
     split at hr
     ·rename_i con fz
      exact ahz (show ahv P w0 f con from hC f (.one con) fz) h ct hr fun G' dL a' w' h' lK hB=>⟨⟨⟨G',dL,h',lK⟩,fun _=>hB⟩,fun hem=>absurd (jE hem) hf,.below hB⟩
     ·rename_i con fz
      rw[fz]at hcall
      cases hcall
     ·rename_i con fz
      rw[fz]at hcall
      cases hcall
     ·rename_i fz
      rw[fz]at hcall
      cases hcall
     ·rename_i fz
      rw[fz]at hcall
      cases hcall
     ·rename_i fz
      rw[fz]at hcall
      cases hcall
     ·cases hr
    ·cases hcall
 ·have hem:∀{α:Prop},GP P o=true→α:=fun hem=>absurd (show qM P C ops o=true by unfold qM;rw[jE hem];simp) hl
  cases hb:aeQ C o with
  |none=>exact Oper.wp_mono (fun a' w' h'=>⟨⟨h',fun h=>absurd h hl⟩,fun h=>hem h,fun t g k ht=>(by rw[hb]at ht;cases ht)⟩) (DV (Q:=Q) hC h hr hK)
  |some t =>
   have hb0:=hb
   unfold aeQ at hb
   split at hb
   ·rename_i f args ts ct
    split at hb
    ·rename_i con fz
     have RL:(con.pm=.box∨con.pm=.cur)∧nN args.toList con.i=some (.tmp t):=by
      cases hp:con.pm with
      |box =>
       rw[hp]at hb
       dsimp only at hb
       split at hb
       ·rename_i t' ht';cases hb;exact⟨.inl rfl,ht'⟩
       ·cases hb
      |cur =>
       rw[hp]at hb
       dsimp only at hb
       split at hb
       ·rename_i t' ht';cases hb;exact⟨.inr rfl,ht'⟩
       ·cases hb
      |rd=>rw[hp]at hb;cases hb
      |own f=>rw[hp]at hb;cases hb
     simp only[jC,ct,fz]at hr
     refine Oper.wp_mono (fun a' w' h'=>⟨⟨h'.1,fun h=>absurd h hl⟩,fun h=>hem h,fun t' g k ht hv hk hne=>?_⟩) (acb (show aae P w0 f con from hC f (.two con) fz) h ct hr hK)
     rw[hb0]at ht
     cases ht
     exact h'.2 (.tmp t) g RL.1 RL.2 hv k hk hne
    ·cases hb
   ·cases hb
theorem QI {ops:Array Oper}{j:Nat}{oj:Oper}{dj:Tmp}{tmps:Array Value}(h1:nN ops.toList j=some oj)(h2:oj.dst=some dj) :
  yielded ops tmps j=match tmps.getD dj undef with|.bool b=>some b|_=>none:=by
 have h3:ops[j]?=some oj:=by
  rw[ats]at h1
  simpa using h1
 unfold yielded
 rw[h3]
 simp only[alx,h2]
 rw[N2]
 cases tmps[dj]? with
 |none=>rfl
 |some v=>cases v<;>rfl
theorem Yf {ops:Array Oper}{k:St→Option α}(h:Inv w0 G st a w)(hr:abQ P C (rQ.Qw N) ops.toList o st k=some r) :
  (Region.wanted o (yielded ops a.tmps)=true∧∃dL,(dL=st∨∃dj b b',st.get dj=.v (.c (.bool b))∧dL=st.put dj (.v (.c (.bool b'))))∧Inv w0 G dL a w∧jC P C (rQ.Qw N) o dL k=some r) ∨
  (Region.wanted o (yielded ops a.tmps)=false∧∃G' dL,Inv w0 G' dL (a.put o.dst undef) w∧k dL=some r):=by
 have Un:∀{st:St},Inv w0 G st a w→St.pk st o.dst (.TO []) k=some r→∃G' dL,Inv w0 G' dL (a.put o.dst undef) w∧k dL=some r:=by
  intro st h hr
  obtain⟨G',dL,h1,h2⟩:=Cg (K:=fun a' w'=>∃G' dL,Inv w0 G' dL a' w'∧k dL=some r) h (v:=.TO []) (u:=undef) ⟨#[],rfl,trivial⟩ hr fun G' dL a' w' h' lK=>⟨G',dL,h',lK⟩
  exact⟨G',dL,h1,h2⟩
 unfold abQ at hr
 split at hr
 ·rename_i hg
  exact .inl ⟨by simp[Region.wanted,hg],st,.inl rfl,h,hr⟩
 ·rename_i j TX hg
  split at hr
  ·rename_i oj hoj
   split at hr
   ·rename_i dj hdj
    have hy:=QI (tmps:=a.tmps) hoj hdj
    have QB:=h.ev (.tmp dj)
    rw[show st.ev (.tmp dj)=st.get dj from rfl]at QB
    split at hr
    ·rename_i b hb
     rw[hb]at QB
     have hv:a.tmps.getD dj undef=.bool b:=QB
     rw[hv]at hy
     have acf:∀b',b=b'→Inv w0 G (st.put dj (.v (.c (.bool b')))) a w:=by
      intro b' Cf
      subst Cf
      exact h.lit (.tmp dj) b hv
     rcases abU hr with ⟨hb1,hr⟩|⟨hb1,hr⟩
     ·subst hb1
      cases TX with
      |true=>exact .inl ⟨by simp[Region.wanted,hg,hy],_,.inr ⟨dj,_,_,hb,rfl⟩,acf true rfl,hr⟩
      |false=>exact .inr ⟨by simp[Region.wanted,hg,hy],Un (acf true rfl) hr⟩
     ·subst hb1
      cases TX with
      |true=>exact .inr ⟨by simp[Region.wanted,hg,hy],Un (acf false rfl) hr⟩
      |false=>exact .inl ⟨by simp[Region.wanted,hg,hy],_,.inr ⟨dj,_,_,hb,rfl⟩,acf false rfl,hr⟩
    ·rename_i hb
     rw[hb]at QB
     obtain⟨vs,hv,hvs⟩:=QB
     have hv:a.tmps.getD dj undef=.tuple vs:=hv
     rw[hv]at hy
     exact .inr ⟨by simp[Region.wanted,hg,hy],Un h hr⟩
    ·cases hr
   ·cases hr
  ·cases hr
theorem Yg {ops:Array Oper}{M:Array Bool}:∀{l:List Nat} {j:Nat} {o:Oper},TY P C ops M st l=some (j,o)→j∈l∧ops[j]?=some o∧pR P o=true∧Region.free .any ops M j=true∧((IS st o=true∨aBi ops.toList st o=true)∨(abS P C ops M j=true∨ath P C ops M st j o=true))
 |[],_,_,h=>by simp[TY]at h
 |i::l,j,o,h=>by
  simp only[TY]at h
  split at h
  ·rename_i o' ho'
   split at h
   ·rename_i hc
    cases h
    simp only[aJ,mh]at hc
    exact⟨by simp,ho',hc.1.1,hc.1.2,hc.2.elim (fun h=>h.elim (fun h=>h.elim (fun h=>.inl (.inl h)) fun h=>.inr (.inl h)) fun h=>.inl (.inr h)) fun h=>.inr (.inr h)⟩
   ·obtain⟨h1,h2⟩:=Yg h
    exact⟨by simp[h1],h2⟩
  ·cases h
theorem Yh {ops:Array Oper}{M:Array Bool}:∀{l:List Nat} {j:Nat} {o:Oper},TZ P ops M st l=some (j,o)→j∈l∧ops[j]?=some o∧aEK j (Region.ready .any ops (xX P ops j (List.range ops.size) M))=true∧av6 P ops M st (List.range ops.size)=true
 |[],_,_,h=>by simp[TZ]at h
 |i::l,j,o,h=>by
  simp only[TZ]at h
  split at h
  ·rename_i o' ho'
   split at h
   ·rename_i hc
    cases h
    rw[aJ]at hc
    exact⟨by simp,ho',hc.1,hc.2⟩
   ·obtain⟨h1,h2⟩:=Yh h
    exact⟨by simp[h1],h2⟩
  ·cases h
theorem amf {ops:Array Oper}{M:Array Bool}:∀{l:List Nat},av6 P ops M st l=true→∀i∈l,∀o,ops[i]?=some o→dn P o=true→M.getD i true=false→waits P ops M o=true∨KZ P st o=true
 |[],_,i,h=>by cases h
 |j::l,h,i,hi=>by
  simp only[av6,aJ]at h
  intro o ho hf hM
  rcases gU.1 hi with rfl|hi
  ·have:=h.1
   rw[ho]at this
   simpa [hf,hM]using this
  ·exact amf h.2 i hi o ho hf hM
theorem azw {ops:Array Oper}{M:Array Bool}(h:waits P ops M o=true):∃e∈o.after,Region.binds .any e=true∧∃oe,ops[e.on]?=some oe∧dn P oe=false∧M.getD e.on true=false:=by
 unfold waits at h
 obtain⟨e,he,hb⟩:=as5.1 h
 rw[aJ]at hb
 refine⟨e,he,hb.1,?_⟩
 have h2:=hb.2
 split at h2
 ·rename_i oe hoe
  rw[aJ]at h2
  exact⟨oe,hoe,by simpa using h2.1,by simpa using h2.2⟩
 ·cases h2
theorem arZ {x:Nat}:∀{l:List Nat},aEK x l=true→∀i∈l,i=x
 |[],_,i,h=>by cases h
 |j::l,h,i,hi=>by
  simp only[aEK,aJ]at h
  rcases gU.1 hi with rfl|hi
  ·exact aN h.1
  ·exact arZ h.2 i hi
theorem x6 {ops:Array Oper}{x:Nat}:∀(is:List Nat) {l:Array Bool} {i:Nat},l.getD i false=true→(xX P ops x is l).getD i false=true
 |[],_,_,h=>h
 |j::is,l,i,h=>by
  unfold xX
  split
  ·split
   ·exact x6 is (getD_set_true h)
   ·exact x6 is h
  ·exact x6 is h
theorem Cl {ops:Array Oper}{x y:Nat}{o:Oper}(ho:ops[y]?=some o)(hf:dn P o=true)(hxy:y≠x):∀(is:List Nat) {l:Array Bool},y<l.size→y∈is→(xX P ops x is l).getD y false=true
 |[],_,_,h=>by cases h
 |j::is,l,hl,h=>by
  have hb:Nat.beq y x=false:=by
   cases hb:Nat.beq y x with
   |true=>exact absurd (aN hb) hxy
   |false=>rfl
  unfold xX
  rcases gU.1 h with rfl|h
  ·rw[ho]
   simp only[hf,hb,eZ,Bool.and_self]
   exact x6 is (by simp[N2,hl])
  ·split
   ·split
    ·exact Cl ho hf hxy is (by simpa using hl) h
    ·exact Cl ho hf hxy is hl h
   ·exact Cl ho hf hxy is hl h
theorem Cm {ops:Array Oper}{x y:Nat}{o:Oper}(ho:ops[y]?=some o)(hf:dn P o=false∨y=x):∀(is:List Nat) {l:Array Bool},(xX P ops x is l).getD y true=l.getD y true
 |[],_=>rfl
 |j::is,l=>by
  unfold xX
  split
  ·rename_i o' ho'
   split
   ·rename_i hc
    rw[Cm ho hf is]
    refine getD_set_ne true ?_
    rintro rfl
    rw[ho]at ho'
    cases ho'
    rw[aJ]at hc
    rcases hf with hf|rfl
    ·rw[hf]at hc
     cases hc.1
    ·simp at hc
   ·exact Cm ho hf is
  ·exact Cm ho hf is
theorem Uo {ops:Array Oper}{M:Array Bool}:∀{l:List Nat},Ir P ops M l=true→∀i∈l,∀o,ops[i]?=some o→dn P o=true→M.getD i true=true
 |[],_,i,h=>by cases h
 |j::l,h,i,hi=>by
  simp only[Ir,aJ]at h
  intro o ho hf
  rcases gU.1 hi with rfl|hi
  ·have:=h.1
   rw[ho]at this
   simpa [hf]using this
  ·exact Uo h.2 i hi o ho hf
theorem ahC {ops:Array Oper}{M:Array Bool}:∀{l:List Nat} {st:St},(∀i∈l,∀o,ops[i]?=some o→dn P o=true→M.getD i true=true)→tO P ops M l st=st
 |[],_,_=>rfl
 |i::l,st,h=>by
  have ih:=ahC (st:=st) fun j hj=>h j (pW _ hj)
  unfold tO
  split
  ·rename_i o ho
   split
   ·rename_i hc _
    rw[aJ]at hc
    have:=h i IL o ho hc.1
    rw[this]at hc
    cases hc.2
   ·exact ih
  ·exact ih
theorem ap9 {ops:Array Oper}{M:Array Bool}{i:Nat}(h:abS P C ops M i=true){c:Nat}{oc:Oper}(hc:ops[c]?=some oc)(hl:qM P C ops oc=false):M.getD c true=true∨oP ops M i 3 oc=true:=by
 unfold abS at h
 rw[kj]at h
 have:=h c (kJ.2 (AH.1 hc).1)
 rw[hc]at this
 simpa only[hl,IM,mh]using this
theorem Yi {ops:Array Oper}{M:Array Bool}{i n:Nat}(h:oP ops M i (n+1) o=true):∃e∈o.after,Region.binds .any e=true∧(e.on=i∨(M.getD e.on true=false∧∃oe,ops[e.on]?=some oe∧oP ops M i n oe=true)):=by
 unfold oP at h
 obtain⟨e,he,hb⟩:=as5.1 h
 rw[aJ,mh]at hb
 refine⟨e,he,hb.1,?_⟩
 rcases hb.2 with h1|h1
 ·exact .inl (by simpa using h1)
 ·rw[aJ]at h1
  refine .inr ⟨by simpa using h1.1,?_⟩
  have h2:=h1.2
  split at h2
  ·exact⟨_,by assumption,h2⟩
  ·cases h2
theorem ahD {ops:Array Oper}{M R:Array Bool}{i:Nat}(hR:∀d od,ops[d]?=some od→M.getD d true=false→R.getD d false=true→∀e∈od.after,Region.binds .any e=true→R.getD e.on false=true)(hi:R.getD i false=false) :
  ∀(n d:Nat) (od:Oper),ops[d]?=some od→M.getD d true=false→R.getD d false=true→oP ops M i n od=true→False
 |0,_,_,_,_,_,h=>by simp[oP]at h
 |n+1,d,od,ho,hM,hRd,h=>by
  obtain⟨e,he,hb,h1⟩:=Yi h
  have h2:=hR d od ho hM hRd e he hb
  rcases h1 with h1|⟨h1,oe,hoe,hw⟩
  ·rw[h1,hi]at h2
   cases h2
  ·exact ahD hR hi n e.on oe hoe h1 h2 hw
theorem QJ {ops:Array Oper}{M R l:Array Bool}{i:Nat}(hR:∀d od,ops[d]?=some od→M.getD d true=false→R.getD d false=true→∀e∈od.after,Region.binds .any e=true→R.getD e.on false=true)(hi:R.getD i false=false)(hs:Sup ops R l)(hl:l.getD i false=false) :
  ∀(n c:Nat) (oc:Oper),ops[c]?=some oc→R.getD c false=false→l.getD c false=true→oP ops M i n oc=true→False
 |0,_,_,_,_,_,h=>by simp[oP]at h
 |n+1,c,oc,ho,hRc,N1,h=>by
  obtain⟨e,he,hb,h1⟩:=Yi h
  have h2:=hs.2.2 c oc ho hRc N1 e he hb
  rcases h1 with h1|⟨h1,oe,hoe,hw⟩
  ·rw[h1,hl]at h2
   cases h2
  ·cases hx:R.getD e.on false with
   |true=>exact ahD hR hi n e.on oe hoe h1 hx hw
   |false=>exact QJ hR hi hs hl n e.on oe hoe hx h2 hw
theorem x7 {ops:Array Oper}{nt:Nat}(h:rR P ops nt=true){x:Nat}{o:Oper}(ho:ops[x]?=some o)(hf:dn P o=true){d:Tmp}(hd:o.dst=some d):d<nt∧∀y o',ops[y]?=some o'→y≠x→o'.dst≠some d:=by
 unfold rR at h
 rw[aJ]at h
 replace h:=h.2
 rw[kj]at h
 have:=h x (kJ.2 (AH.1 ho).1)
 rw[ho]at this
 simp only[hf,aK,IM,aJ,hd]at this
 refine⟨ir this.1,fun y o' ho' hne hd'=>?_⟩
 have h2:=this.2
 rw[kj]at h2
 have:=h2 y (kJ.2 (AH.1 ho').1)
 rw[ho']at this
 simp only[hd']at this
 have hb:Nat.beq y x=false:=by
  cases hb:Nat.beq y x with
  |true=>exact absurd (aN hb) hne
  |false=>rfl
 rw[hb]at this
 simp[arA]at this
theorem RM {ops:Array Oper}{nt:Nat}(h:rR P ops nt=true){x:Nat}{o:Oper}(ho:ops[x]?=some o)(hf:dn P o=true){y:Nat}{o':Oper}(ho':ops[y]?=some o'){t:Tmp}(hd:o'.dst=some t)(hu:abR o t=true) :
  dn P o'=false∧∃e∈o.after,Region.binds .any e=true∧e.on=y:=by
 unfold rR at h
 rw[aJ]at h
 replace h:=h.1
 unfold alF at h
 rw[kj]at h
 have:=h x (kJ.2 (AH.1 ho).1)
 rw[ho]at this
 simp only[hf,aK,IM]at this
 rw[kj]at this
 have:=this y (kJ.2 (AH.1 ho').1)
 rw[ho']at this
 simp only[hd,hu,aK,IM,aJ]at this
 refine⟨by simpa using this.1,?_⟩
 obtain⟨e,he,hb⟩:=as5.1 this.2
 rw[aJ]at hb
 exact⟨e,he,hb.1,aN hb.2⟩
def unl (R:Array Bool)(n:Nat):Nat:=(List.range n).countP fun i=> !R.getD i true
theorem ar0 {p q:Nat→Bool}{i:Nat}(hpq:∀x,q x=true→p x=true)(hp:p i=true)(hq:q i=false):∀{l:List Nat},i∈l→l.countP q<l.countP p
 |[],h=>by cases h
 |j::l,h=>by
  have hle:l.countP q≤l.countP p:=List.countP_mono_left fun x _ hx=>hpq x hx
  rcases gU.1 h with rfl|h
  ·rw[as7,as7,hp,hq]
   simp
   omega
  ·have ih:=ar0 hpq hp hq h
   rw[as7,as7]
   cases hqj:q j with
   |false=>simp;omega
   |true=>rw[hpq j hqj];simp;omega
theorem aBJ {R:Array Bool}{n i:Nat}(hi:i<n)(hR:R.size=n)(hu:R.getD i true=false):unl (R.setIfInBounds i true) n<unl R n:=by
 refine ar0 (i:=i) (fun x hx=>?_) (by simp[hu]) ?_ (kJ.2 hi)
 ·by_cases hxi:i=x
  ·subst hxi
   simp[hu]
  ·rw[getD_set_ne true hxi]at hx
   exact hx
 ·have:(R.setIfInBounds i true).getD i true=true:=by simp[N2,aBe,hR,hi]
  simp[this]
theorem aBK {R:Array Bool}{n i:Nat}(hi:i<n)(hu:R.getD i true=false):0<unl R n :=
 List.countP_pos_iff.2 ⟨i,kJ.2 hi,by simp[hu]⟩
structure La (P:Program) (C:FuncId→Option Any) (N:Nat) (ops:Array Oper) (hd0 hd1:Nat→Option (Bool×Obj)) (M R:Array Bool) (E:Nat→Option Nat) (a:Act):Prop where
 szM:M.size=ops.size
 szR:R.size=ops.size
 rel:∀i,R.getD i false=(M.getD i false || (E i).isSome)
 early:∀x g,E x=some g→M.getD x false=false∧∃o d obj,ops[x]?=some o∧dn P o=true∧o.dst=some d∧(aI8 P C N o d∧amb P o a obj∧∀e∈o.after,Region.binds .any e=true→R.getD e.on false=true)∧a.tmps.getD d undef=mkF o g∧hd1 g=some (true,obj)∧hd0 g=none
 inj:∀x y g,E x=some g→E y=some g→x=y
 z:∀x ox d,ops[x]?=some ox→GP P ox=true→ox.dst=some d→R.getD x false=true→∃g,a.tmps.getD d undef=.slice (some ⟨g,0,none⟩) 0 0
 hd:∀g v,hd0 g=some v→hd1 g=some v
section
variable {ops:Array Oper} {hd0 hd1:Nat→Option (Bool×Obj)} {M R:Array Bool} {E:Nat→Option Nat}
theorem kO {l:Array Bool}{i:Nat}(h:l.getD i true=false):l.getD i false=false:=by
 rcases abM i l.size with h'|h'
 ·rw[←Ck h']
  exact h
 ·simp[Array.getElem?_eq_none h',N2]
theorem ak8 {l:Array Bool}{i:Nat}(h:l.getD i false=false)(hi:i<l.size):l.getD i true=false:=by
 rw[Ck hi]
 exact h
theorem Of {l:Array Bool}{i:Nat}(hi:i<l.size):(l.setIfInBounds i true).getD i false=true:=by
 simp[N2,aBe,hi]
theorem La.ready (hE:La P C N ops hd0 hd1 M R E a){j:Nat}(hj:j∈Region.ready .any ops M)(hn:E j=none):j∈Region.ready .any ops R:=by
 obtain⟨h1,o,ho,nQ⟩:=mem_ready.1 hj
 have hlt:j<ops.size:=(AH.1 ho).1
 refine mem_ready.2 ⟨ak8 ?_ (by rw[hE.szR];exact hlt),o,ho,fun e he hb=>?_⟩
 ·rw[hE.rel,kO h1,hn]
  rfl
 ·rw[hE.rel,nQ e he hb,alA]
theorem La.unM (hE:La P C N ops hd0 hd1 M R E a){j:Nat}(h:R.getD j true=false)(hlt:j<ops.size):M.getD j true=false∧E j=none:=by
 have h1:=kO h
 rw[hE.rel]at h1
 simp only[ahg]at h1
 refine⟨ak8 h1.1 (by rw[hE.szM];exact hlt),?_⟩
 cases hx:E j with
 |none=>rfl
 |some g =>
  rw[hx]at h1
  cases h1.2
theorem La.next (hE:La P C N ops hd0 hd1 M R E a){nt:Nat}(hfd:rR P ops nt=true){j:Nat}{o:Oper}(ho:ops[j]?=some o)(hn:E j=none)(hjR:R.getD j true=false){a':Act}(ha:∀t,o.dst≠some t→a'.tmps.getD t undef=a.tmps.getD t undef)
  (hz:GP P o=true→∀d,o.dst=some d→∃g,a'.tmps.getD d undef=.slice (some ⟨g,0,none⟩) 0 0) :
  La P C N ops hd0 hd1 (M.setIfInBounds j true) (R.setIfInBounds j true) E a':=by
 have hlt:j<ops.size:=(AH.1 ho).1
 refine⟨by simpa using hE.szM,by simpa using hE.szR,fun i=>?_,fun x g hx=>?_,hE.inj,fun x ox d hox hem hd hx=>?_,hE.hd⟩
 ·by_cases hij:j=i
  ·subst hij
   rw[Of (by rw[hE.szR];exact hlt),Of (by rw[hE.szM];exact hlt)]
   rfl
  ·rw[getD_set_ne false hij,getD_set_ne false hij]
   exact hE.rel i
 ·obtain⟨h1,ox,d,obj,h2,h3,h4,h5,h6,h7,h8⟩:=hE.early x g hx
  have hne:j≠x:=by
   rintro rfl
   rw[hn]at hx
   cases hx
  refine⟨by rw[getD_set_ne false hne];exact h1,ox,d,obj,h2,h3,h4,⟨h5.1,h5.2.1.same fun t ht=>ha t fun hdt=>?_,fun e he hb=>getD_set_true (h5.2.2 e he hb)⟩,?_,h7,h8⟩
  ·obtain⟨_,e,he,hb,hon⟩:=RM hfd h2 h3 ho hdt ht
   have:=h5.2.2 e he hb
   rw[hon,kO hjR]at this
   cases this
  rw[ha d ((x7 hfd h2 h3 h4).2 j o ho hne)]
  exact h6
 ·by_cases hjx:j=x
  ·subst hjx
   rw[ho]at hox
   cases hox
   exact hz hem d hd
  ·rw[ha d ((x7 hfd hox (jE hem) hd).2 j o ho hjx)]
   rw[getD_set_ne false hjx]at hx
   exact hE.z x ox d hox hem hd hx
theorem aFs (n x:Nat):(Array.replicate n false).getD x false=false:=by
 rw[N2,Array.getElem?_replicate]
 split<;>rfl
theorem azx (a:Act)(o:Oper)(v:Value)(t:Tmp)(ht:o.dst≠some t):(a.put o.dst v).tmps.getD t undef=a.tmps.getD t undef:=by
 cases hd:o.dst with
 |none=>simp[Act.put]
 |some d=>exact nR (fun e=>ht (by rw[hd,e])) v
theorem aHM {tV:St}(h:tV=st∨∃dj b b',st.get dj=.v (.c (.bool b))∧tV=st.put dj (.v (.c (.bool b')))){x:Operand}{d off:Nat}(hp:st.ac x=.ptr d off):tV.ac x=.ptr d off:=by
 rcases h with rfl|⟨dj,b,b',hg,rfl⟩
 ·exact hp
 ·cases x with
  |tmp s =>
   by_cases hs:dj=s
   ·subst hs
    simp only[St.ac,St.eT,St.ev,hg]at hp
    cases hp
   ·have:(st.put dj (.v (.c (.bool b')))).ac (.tmp s)=st.ac (.tmp s):=by
     simp only[St.ac,St.eT,St.ev,St.get,St.put,aw,ah hs]
    rw[this]
    exact hp
  |_=>exact hp
theorem atN {k:St→Option α}(h:Inv w0 G st a w){t:TypeId}{x:Operand}(ho:o.op=.load t x){d ap1:Nat}(abV:st.ac x=.ptr d ap1)(hr:jC P C (rQ.Qw N) o st k=some r):alL P w0 G w d a o k r:=by
 simp only[jC,ho]at hr
 split at hr
 ·rename_i l off hcell
  split at hr
  ·rename_i hn
   split at hr
   ·exact aBs h t x ho hcell hn (b:=true) (by assumption) (v:=.agg _) rfl abV hr
   ·split at hr
    ·rename_i nC _ y hq
     exact aBs h t x ho hcell hn (b:=false) nC (v:=.c y) ⟨y,hq,rfl⟩ abV hr
    ·cases hr
   ·cases hr
  ·cases hr
 ·cases hr
theorem awv {M:Array Bool}{t:Tmp}(h:ay5 ops M t=true){j:Nat}{oj:Oper}(hj:ops[j]?=some oj)(hl:M.getD j true=false):oj.dst≠some t:=by
 have:=kj.1 h j (kJ.2 (AH.1 hj).1)
 rw[hj]at this
 dsimp only at this
 rw[hl,IM]at this
 intro hd
 rw[hd]at this
 simp[arA]at this
theorem aww {M:Array Bool}{i:Nat}(h:ath P C ops M st i o=true):∃t x b off,o.op=.load t x∧st.ac x=.ptr b off∧∀c oc,ops[c]?=some oc→qM P C ops oc=false→M.getD c true=true∨oP ops M i 3 oc=true ∨
  ∃tc bb,aeQ C oc=some tc∧st.get tc=.v (.c (.ptr bb 0))∧bb≠b∧ay5 ops M tc=true:=by
 unfold ath at h
 split at h
 ·rename_i t x ho
  split at h
  ·rename_i b off hp
   refine⟨t,x,b,off,ho,hp,fun c oc hc hl=>?_⟩
   have:=kj.1 h c (kJ.2 (AH.1 hc).1)
   rw[hc]at this
   dsimp only at this
   rw[hl,IM,mh,mh]at this
   rcases this with (h1|h1)|h1
   ·exact .inl h1
   ·exact .inr (.inl h1)
   ·refine .inr (.inr ?_)
    split at h1
    ·rename_i tc htc
     rw[aJ]at h1
     obtain⟨h2,h3⟩:=h1
     split at h2
     ·rename_i bb hbb
      exact⟨tc,bb,htc,hbb,bI h2,h3⟩
     ·cases h2
    ·cases h1
  ·cases h
 ·cases h
theorem azy {x:Option Tmp}{t:Tmp}(h:arA x (some t)=true):x=some t:=by
 cases x with
 |none=>cases h
 |some s=>rw[aN (show Nat.beq s t=true from h)]
theorem La.fresh (hE:La P C N ops hd0 hd1 M R E a){i:Nat}(hi:i∈Region.ready .any ops R)(ho:ops[i]?=some o)(t:Tmp)(ht:Z5 o=some t)(hf:N6 P ops o=true):∃g,a.tmps.getD t undef=.slice (some ⟨g,0,none⟩) 0 0:=by
 obtain⟨_,o',ho',nQ⟩:=mem_ready.1 hi
 rw[ho]at ho'
 cases ho'
 unfold N6 at hf
 rw[ht]at hf
 obtain⟨x,_,hx⟩:=List.any_eq_true.1 (show(List.range ops.size).any _=true from hf)
 split at hx
 ·rename_i ox hox
  simp only[aJ]at hx
  obtain⟨⟨h1,h2⟩,h3⟩:=hx
  obtain⟨e,he,hb⟩:=as5.1 h3
  rw[aJ]at hb
  have hon:=aN hb.2
  have:=nQ e he hb.1
  rw[hon]at this
  exact hE.z x ox t hox h1 (azy h2) this
 ·cases hx
theorem La.dlt (_:La P C N ops hd0 hd1 M R E a){nt:Nat}(hfd:rR P ops nt=true)(hnt:a.tmps.size=nt){i:Nat}(ho:ops[i]?=some o)(d:Tmp)(hf:dn P o=true)(hd:o.dst=some d):d<a.tmps.size:=by
 rw[hnt]
 exact(x7 hfd ho hf hd).1
theorem awx {tV:St}(h:tV=st∨∃dj b b',st.get dj=.v (.c (.bool b))∧tV=st.put dj (.v (.c (.bool b'))))(hro:IS st o=true):IS tV o=true:=by
 rcases h with rfl|⟨dj,b,b',hg,rfl⟩
 ·exact hro
 ·cases ct:o.op with
  |load t x =>
   simp only[IS,ct]at hro ⊢
   cases x with
   |const _=>exact hro
   |tmp s =>
    by_cases hs:dj=s
    ·subst hs
     simp only[St.ac,St.eT,St.ev,hg]at hro
     cases hro
    ·have:(st.put dj (.v (.c (.bool b')))).ac (.tmp s)=st.ac (.tmp s):=by
      simp only[St.ac,St.eT,St.ev,St.get,St.put,aw,ah hs]
     rw[this]
     exact hro
   |_=>exact hro
  |convert _ _ _=>simp[IS,ct]at hro
  |_=>simp[IS,ct]
theorem azz (h:Inv w0 G st a w)(hs:aBi ops.toList st o=true):Region.wanted o (yielded ops a.tmps)=false:=by
 unfold aBi at hs
 split at hs
 ·cases hs
 ·rename_i j TX hg
  split at hs
  ·rename_i oj hoj
   split at hs
   ·rename_i dj hdj
    have hy:=QI (tmps:=a.tmps) hoj hdj
    have QB:=h.ev (.tmp dj)
    rw[show st.ev (.tmp dj)=st.get dj from rfl]at QB
    split at hs
    ·rename_i hb
     rw[hb]at QB
     rw[show a.tmps.getD dj undef=.bool true from QB]at hy
     simp[Region.wanted,hg,hy]
    ·rename_i hb
     rw[hb]at QB
     rw[show a.tmps.getD dj undef=.bool false from QB]at hy
     simp[Region.wanted,hg,hy]
    ·rename_i hb
     rw[hb]at QB
     obtain⟨vs,hv,hvs⟩:=QB
     have hv:a.tmps.getD dj undef=.tuple vs:=hv
     rw[hv]at hy
     simp[Region.wanted,hg,hy]
    ·cases hs
   ·cases hs
  ·cases hs
theorem aFt (hC:∀f con,C f=some con→RJ P w0 f con){Q:Exit→Act→World→Prop}(hQ:∀c a a' w,Q (.panic c) a w→Q (.panic c) a' w)(hs:Region.noSelect ops=true){nt:Nat}(hfd:rR P ops nt=true){k:St→Option α}(hK:rT w0 k r (Q .normal)) :
  ∀(s m n:Nat),m+n=s→∀{M R:Array Bool} {E:Nat→Option Nat} {hd1:Nat→Option (Bool×Obj)} {G:Gh} {st:St} {a:Act} {w:World},unl R ops.size≤n→a.tmps.size=nt→La P C N ops w0.hd hd1 M R E a →
   Inv {w0 with hd:=hd1} G (tO P ops M (List.range ops.size) st) a w→GQ P C (rQ.Qw N) ops m M st k=some r→Ny P ops Q (SI P C ops G w a R) n R a w:=by
 intro s
 induction s using Nat.strongRecOn with
 |ind s ih =>
 intro m n hmn M R E hd1 G st a w aJ2 hnt hE hI hr
 have hlt:∀{i:Nat} {o:Oper},ops[i]?=some o→i<ops.size:=fun h=>(AH.1 h).1
 have aJa:Region.ready .any ops M=[]→ck (Ir P ops M (List.range ops.size)) (k st)=some r→Ny P ops Q (SI P C ops G w a R) n R a w:=by
  intro kc hr
  obtain⟨nQ,hr⟩:=aX hr
  have hal:=fun i hi=>Uo nQ i (kJ.2 hi)
  have hEn:∀x,E x=none:=by
   intro x
   cases hx:E x with
   |none=>rfl
   |some g =>
    obtain⟨h1,o,d,obj,h2,h3,_⟩:=hE.early x g hx
    have:=hal x (hlt h2) o h2 h3
    rw[ak8 h1 (by rw[hE.szM];exact hlt h2)]at this
    cases this
  rw[ahC (fun i hi o ho hf=>hal i (kJ.1 hi) o ho hf)]at hI
  have hI0:Inv w0 G st a w:=⟨hI.nw,hI.rok,hI.below,hI.defers,hI.size,hI.sp,fun g b o hm=>hI.hd g b o (hE.hd g _ hm),hI.tm,hI.bx,hI.bl,hI.own⟩
  refine awu (List.eq_nil_iff_forall_not_mem.2 fun i hi=>?_) (hK _ _ _ _ hI0 hr) n
  obtain⟨h1,o,ho,ar1⟩:=mem_ready.1 hi
  have:i∈Region.ready .any ops M:=by
   refine mem_ready.2 ⟨(hE.unM h1 (hlt ho)).1,o,ho,fun e he hb=>?_⟩
   have:=ar1 e he hb
   rw[hE.rel,hEn]at this
   simpa using this
  rw[kc]at this
  cases this
 cases m with
 |zero =>
  simp only[GQ]at hr
  split at hr
  ·rename_i kc
   exact aJa kc hr
  ·cases hr
 |succ m =>
  have WZ:=hr
  simp only[GQ]at hr
  split at hr
  ·rename_i kc
   exact aJa kc hr
  ·rename_i i0 rest kc
   have hCF:=fun f con h=>hI.aLV (hC f con h:RJ P {w0 with hd:=hd1} f con)
   split at hr
   ·
    rename_i j o hp
    obtain⟨h1,ho,awy,aBH,Ba⟩:=Yg hp
    rw[←kc]at h1
    have hEj:E j=none:=by
     cases hx:E j with
     |none=>rfl
     |some g =>
      obtain⟨_,o',d,obj,h2,h3,_⟩:=hE.early j g hx
      rw[ho]at h2
      cases h2
      rw[I3 awy]at h3
      cases h3
    have hjR:=hE.ready h1 hEj
    have hun:=(mem_ready.1 hjR).1
    have aJ3:qM P C ops o=true:=by unfold qM;rw[awy];rfl
    cases n with
    |zero=>exact absurd (aBK (hlt ho) hun) (by omega)
    |succ n =>
     have aLY:=aBJ (hlt ho) hE.szR hun
     have fin:∀{v:Value} {G2:Gh} {st2:St},Inv hI.root G2 st2 (a.put o.dst v) w→GQ P C (rQ.Qw N) ops m (M.setIfInBounds j true) st2 k=some r→(∃S0:World→Prop,YieldsIf P ops S0 o v a∧∀l' w',Sup ops R l'→l'.getD j true=false→SI P C ops G w a R l' w'→S0 w') →
       Ny P ops Q (SI P C ops G w a R) (n+1) R a w:=by
      intro v G2 st2 hi2 hr2 ⟨S0,hy,hS0⟩
      obtain⟨hb1,hb2,hb3⟩:=hI.amd hi2
      have hih:=ih (m+n) (by omega) m n rfl (M:=M.setIfInBounds j true) (R:=R.setIfInBounds j true) (by omega) (by rw[←hnt];cases o.dst<;>simp[Act.put])
       (hE.next hfd ho hEj hun (a':=a.put o.dst v) (fun t ht=>by
        cases hd:o.dst with
        |none=>simp[Act.put]
        |some d=>exact nR (fun e=>ht (by rw[hd,e])) v) fun hem=>absurd (jE hem) (by rw[I3 awy];simp)) (qP _ hb1) hr2
      refine atL ho (Region.noSelect_spec hs) (fun c a w hq=>hQ c _ _ w hq) (fun l w'=>SI.set ho aJ3 l w') n R a w ?_ hjR hy hS0 (SI.refl R R) (xd n (fun l' w' hs' hS'=>?_) hih)
      ·intro j' oj' hj' hne hu aE9
       exact Region.free_spec ho aBH j' oj' hj' hne ((hE.unM hu (hlt hj')).1) aE9
      ·exact SI.step hE.szR ((SI.set ho aJ3 R w).2 (SI.refl R R)) (fun g hg ho=>(hb3 g hg ho).1) (fun t ht=>azx a o v t (ht j o ho (kO hun))) (Sup.set hjR) hs' hS'
     rcases Yf hI.from hr with ⟨hw,tV,aLZ,hi,hr1⟩|⟨hw,G1,tV,hi,hr1⟩
     ·rcases Ba with (hro|ahE)|(aN1|hbx)
      ·have aN2:IS tV o=true:=awx aLZ hro
       obtain⟨v,G2,st2,he,hi2,hr2⟩:=atK awy aN2 hi hr1
       exact fin hi2 hr2 ⟨_,.inl ⟨hw,he⟩,fun l' w' _ _ hS'=>hS'.2.1⟩
      ·rw[azz hI ahE]at hw
       cases hw
      ·obtain⟨v,G2,st2,he,hi2,hr2⟩:=aak awy hi hr1
       refine fin hi2 hr2 ⟨fun w'=>Below w.heap.size w w',.inl ⟨hw,fun w' hB=>he w' (xZ hB)⟩,fun l' w' aDn aJ4 hS'=>hS'.2.2.1 fun c oc hc N1=>?_⟩
       have l's:l'.size=ops.size:=aDn.1.symm.trans hE.szR
       rw[Ck (by rw[l's];exact hlt hc),Ck (by rw[hE.szR];exact hlt hc)]
       rcases ap9 aN1 hc N1 with aFu|hwf
       ·have hR:R.getD c false=true:=by
         rw[hE.rel,←Ck (by rw[hE.szM];exact hlt hc),aFu,alA]
        rw[hR,aDn.2.1 c hR]
       ·cases hx:R.getD c false with
        |true=>rw[aDn.2.1 c hx]
        |false =>
         cases hy:l'.getD c false with
         |false=>rfl
         |true =>
          refine(QJ (R:=R) (i:=j) (fun d od hd hMd hRd e he hb=>?_) (kO hun) aDn (kO aJ4) 3 c oc hc hx hy hwf).elim
          rw[hE.rel,kO hMd,IM]at hRd
          obtain⟨g,hg⟩:=mg.1 hRd
          obtain⟨_,od',_,_,aFv,_,_,h5,_⟩:=hE.early d g hg
          rw[hd]at aFv
          cases aFv
          exact h5.2.2 e he hb
      ·obtain⟨t,x,b,off,ct,abV,nQ⟩:=aww hbx
       obtain⟨v,G2,st2,he,hi2,hr2⟩:=atN hi ct (aHM aLZ abV) hr1
       have hrel:=hI.ac x
       rw[abV]at hrel
       obtain⟨aL1,_⟩:=hrel
       obtain⟨lb,hlb⟩:=mg.1 aL1
       obtain⟨_,_,_,aJb,_⟩:=hI.bx b lb hlb
       have aJH:=(hI.own _ _ aJb).2.1
       refine fin hi2 hr2 ⟨fun w'=>w'.heap[G.hb b]?=w.heap[G.hb b]?,.inl ⟨hw,he⟩,fun l' w' aDn aJ4 hS'=>hS'.2.2.2 (G.hb b) aJH fun c oc hc N1 hcR hcl=>?_⟩
       rcases nQ c oc hc N1 with aFu|hwf|⟨tc,bb,htc,hbb,hne,aN5⟩
       ·have:R.getD c false=true:=by
         rw[hE.rel,←Ck (by rw[hE.szM];exact hlt hc),aFu,alA]
        rw[this]at hcR
        cases hcR
       ·refine(QJ (R:=R) (i:=j) (fun d od hd hMd hRd e he hb=>?_) (kO hun) aDn (kO aJ4) 3 c oc hc hcR hcl hwf).elim
        rw[hE.rel,kO hMd,IM]at hRd
        obtain⟨g,hg⟩:=mg.1 hRd
        obtain⟨_,od',_,_,aFv,_,_,h5,_⟩:=hE.early d g hg
        rw[hd]at aFv
        cases aFv
        exact h5.2.2 e he hb
       ·have aL2:=hI.ev (.tmp tc)
        rw[show(tO P ops M (List.range ops.size) st).ev (.tmp tc)=(tO P ops M (List.range ops.size) st).get tc from rfl,hbb]at aL2
        obtain⟨aJ5,hvt⟩:=(show _∧_ from aL2)
        obtain⟨lb2,aN6⟩:=mg.1 aJ5
        obtain⟨_,_,_,aFw,_⟩:=hI.bx bb lb2 aN6
        refine⟨tc,G.hb bb,htc,fun j' oj' hj' hl'=>awv aN5 hj' ((hE.unM (ak8 hl' (by rw[hE.szR];exact hlt hj')) (hlt hj')).1),hvt,fun e=>hne ?_⟩
        rw[e,aJb]at aFw
        injection aFw with e2
        injection e2 with e2
        exact e2.symm
     ·exact fin hi hr1 ⟨fun _=>True,.inr ⟨hw,rfl⟩,fun _ _ _ _ _=>trivial⟩
   ·rename_i hpn
    split at hr
    ·
     rename_i x o hx
     obtain⟨h1,ho,nQ,hkn⟩:=Yh hx
     rw[←kc]at h1
     cases hEx:E x with
     |some g =>
      obtain⟨h2,o',d,obj,ho',T8,T3,⟨aFx,amc,_⟩,htm,hh1,hh0⟩:=hE.early x g hEx
      rw[ho]at ho'
      cases ho'
      obtain⟨_,_,azA,_,_⟩:=QH (C:=C) (N:=N) T8
      have hr1:jC P C (rQ.Qw N) o (tO P ops M (List.range ops.size) st) (fun st=>GQ P C (rQ.Qw N) ops m (M.setIfInBounds x true) st k)=some r:=by
       unfold abQ at hr
       rw[azA]at hr
       exact hr
      obtain⟨hg1,hg2,hg3⟩:=hI.hd g true obj hh1
      have hI2:Inv {w0 with hd:=fun g'=>if g'=g then none else hd1 g'} G (tO P ops M (List.range ops.size) st) a w :=
       ⟨hI.nw,hI.rok,hI.below,hI.defers,hI.size,hI.sp,fun g' b o' hm=>hI.hd g' b o' (by
        dsimp only at hm
        split at hm
        ·cases hm
        ·exact hm),hI.tm,hI.bx,hI.bl,hI.own⟩
      obtain⟨G1,tV,hi1,hr2,aN8⟩:=aFx hI2 hg1 (by simp) hg3 amc htm hr1
      have hE':La P C N ops w0.hd (fun g'=>if g'=g then none else hd1 g') (M.setIfInBounds x true) R (fun y=>if y=x then none else E y) a:=by
       refine⟨by simpa using hE.szM,hE.szR,fun i=>?_,fun y g' hy=>?_,fun y z g' hy hz=>?_,fun y ox d' hox hem hd' hRx=>?_,fun g' v hv=>?_⟩
       ·by_cases hix:i=x
        ·subst hix
         rw[Of (by rw[hE.szM];exact hlt ho),hE.rel,hEx]
         simp
        ·rw[getD_set_ne false (Ne.symm hix),hE.rel,ah hix]
       ·by_cases hyx:y=x
        ·rw[ak hyx]at hy
         cases hy
        ·rw[ah hyx]at hy
         obtain⟨q1,oy,dy,aJ8,q2,q3,q4,q5,q6,q7,q8⟩:=hE.early y g' hy
         refine⟨by rw[getD_set_ne false (Ne.symm hyx)];exact q1,oy,dy,aJ8,q2,q3,q4,q5,q6,?_,q8⟩
         have:g'≠g:=by
          rintro rfl
          exact hyx (hE.inj y x g' hy hEx)
         rw[ah this]
         exact q7
       ·split at hy
        ·cases hy
        ·split at hz
         ·cases hz
         ·exact hE.inj y z g' hy hz
       ·exact hE.z y ox d' hox hem hd' hRx
       ·have:g'≠g:=by
         rintro rfl
         rw[hh0]at hv
         cases hv
        rw[ah this]
        exact hE.hd g' v hv
      have hih:=ih (m+n) (by omega) m n rfl (M:=M.setIfInBounds x true) (R:=R) aJ2 hnt hE' (qP _ hi1) hr2
      exact xd n (fun l' w' _ hS'=>⟨hS'.1,fun g' hg' ho'=>hS'.2.1 g' hg' (aN8 g' ho'),hS'.2.2⟩) hih
     |none =>
      have hxR:=hE.ready h1 hEx
      have hun:=(mem_ready.1 hxR).1
      cases n with
      |zero=>exact absurd (aBK (hlt ho) hun) (by omega)
      |succ n =>
       have aFy:∀{w':World},w.heap.size≤w'.heap.size→(∀g,g<w.heap.size→G.own g=none→w'.heap[g]?=w.heap[g]?)→∀{i:Nat} {oi:Oper},ops[i]?=some oi→i∈Region.ready .any ops R→(qM P C ops oi=true→Below w.heap.size w w')→atM C oi a w w'→SI P C ops G w a R (R.setIfInBounds i true) w':=by
        intro w' h1 h2 i oi hoi hi h3 h4
        refine⟨h1,h2,fun hm=>?_,fun k hk hm=>?_⟩
        ·cases hl:qM P C ops oi with
         |true=>exact h3 hl
         |false =>
          have:=hm i oi hoi hl
          rw[Ck (by simp[hE.szR,hlt hoi]),Of (by rw[hE.szR];exact hlt hoi),(mem_ready.1 hi).1]at this
          cases this
        ·cases hl:qM P C ops oi with
         |true=>exact(h3 hl).block k hk
         |false =>
          obtain⟨t,g,e1,_,e3,e4⟩:=hm i oi hoi hl (kO (mem_ready.1 hi).1) (Of (by rw[hE.szR];exact hlt hoi))
          exact h4 t g k e1 e3 hk (Ne.symm e4)
       refine⟨fun h0=>by(rw[h0]at hxR;cases hxR),fun i hi=>?_⟩
       obtain⟨aHO,oi,hoi,ar1⟩:=mem_ready.1 hi
       have aLY:=aBJ (hlt hoi) hE.szR aHO
       by_cases hix:i=x
       ·subst hix
        rw[ho]at hoi
        cases hoi
        unfold Go.wpOp
        simp only[ho]
        rcases Yf hI.from hr with ⟨hw,tV,_,hi1,hr1⟩|⟨hw,G1,tV,hi1,hr1⟩
        ·rw[hw]
         simp only[ik]
         refine .inl (Oper.wp_mono (fun a' w' h'=>?_) (azv hCF hi1 hr1 (hE.fresh hi ho) (hE.dlt hfd hnt ho)))
         obtain⟨⟨⟨⟨G2,st2,hi2,hr2⟩,aOb⟩,aL3⟩,hsz,htm⟩:=h'
         obtain⟨hb1,hb2,hb3⟩:=hI.amd hi2
         have hS1:=aFy hb2 (fun g hg ho=>(hb3 g hg ho).2) ho hi aOb aL3.2
         have hih:=ih (m+n) (by omega) m n rfl (M:=M.setIfInBounds i true) (R:=R.setIfInBounds i true) (by omega) (hsz.trans hnt) (hE.next hfd ho hEx hun htm aL3.1) (qP _ hb1) hr2
         exact⟨hS1,xd n (fun l' w'' hs' hS'=>SI.step hE.szR hS1 (fun g hg ho=>(hb3 g hg ho).1) (fun t ht=>htm t (ht i o ho (kO hun))) (Sup.set hi) hs' hS') hih⟩
        ·rw[hw]
         simp only[arv,gV]
         obtain⟨hb1,hb2,hb3⟩:=hI.amd hi1
         have hS1:=aFy (b9 _) (fun g hg ho=>rfl) ho hi (fun _=>Below.refl _ w) (.below (Below.refl _ w))
         have hih:=ih (m+n) (by omega) m n rfl (M:=M.setIfInBounds i true) (R:=R.setIfInBounds i true) (by omega) (by rw[←hnt];cases o.dst<;>simp[Act.put])
          (hE.next hfd ho hEx hun (a':=a.put o.dst undef) (fun t ht=>by
           cases hd:o.dst with
           |none=>simp[Act.put]
           |some d=>exact nR (fun e=>ht (by rw[hd,e])) undef) fun hem=>by
            obtain⟨_,_,hgd,_⟩:=QH (C:=C) (N:=N) (jE hem)
            simp[Region.wanted,hgd]at hw) (qP _ hb1) hr1
         exact⟨hS1,xd n (fun l' w'' hs' hS'=>SI.step hE.szR hS1 (fun g hg ho=>(hb3 g hg ho).1) (fun t ht=>azx a o undef t (ht i o ho (kO hun))) (Sup.set hi) hs' hS') hih⟩
       ·
        obtain⟨hiM,hEi⟩:=hE.unM aHO (hlt hoi)
        have T8:dn P oi=true:=by
         cases T8:dn P oi with
         |true=>rfl
         |false =>
          refine absurd (arZ nQ i (mem_ready.2 ⟨?_,oi,hoi,fun e he hb=>?_⟩)) hix
          ·rw[Cm hoi (.inl T8)]
           exact hiM
          ·have:=ar1 e he hb
           rw[hE.rel,mh]at this
           rcases this with hM|hEe
           ·exact x6 _ hM
           ·obtain⟨g,hg⟩:=mg.1 hEe
            obtain⟨_,oe,_,_,hoe,hfe,_⟩:=hE.early e.on g hg
            refine Cl hoe hfe (fun e'=>?_) _ (by rw[hE.szM];exact hlt hoe) (kJ.2 (hlt hoe))
            rw[e',hEx]at hg
            cases hg
        obtain⟨d,hd,azA,IY,aFx⟩:=QH (C:=C) (N:=N) T8
        have hpk:KZ P (tO P ops M (List.range ops.size) st) oi=true:=by
         rcases amf hkn i (kJ.2 (hlt hoi)) oi hoi T8 hiM with hw|hk
         ·exfalso
          obtain⟨e,he,hb,oe,hoe,hfe,hMe⟩:=azw hw
          have:=ar1 e he hb
          rw[hE.rel,kO hMe,IM]at this
          obtain⟨g,hg⟩:=mg.1 this
          obtain⟨_,oe',_,_,aL5,aL6,_⟩:=hE.early e.on g hg
          rw[hoe]at aL5
          cases aL5
          rw[hfe]at aL6
          cases aL6
         ·exact hk
        obtain⟨obj,IY,amc⟩:=IY hI hpk
        have aJd:∀(y:Nat) (oy:Oper),ops[y]?=some oy→dn P oy=true→(∀e∈oy.after,Region.binds .any e=true→R.getD e.on false=true)→abR oy d=true→False:=by
         intro y oy hoy hfy hdy hu
         obtain⟨_,e,he,hb,hon⟩:=RM hfd hoy hfy hoi hd hu
         have:=hdy e he hb
         rw[hon,kO aHO]at this
         cases this
        obtain⟨aOc,aL7⟩:=x7 hfd hoi T8 hd
        have aJ3:qM P C ops oi=true:=by unfold qM;rw[T8];simp
        unfold Go.wpOp
        simp only[hoi]
        rw[show Region.wanted oi (yielded ops a.tmps)=true by simp[Region.wanted,azA]]
        simp only[ik]
        refine .inl (IU IY ?_)
        have hB:Below w.heap.size w (w.alloc obj):=⟨rfl,rfl,rfl,by simp,fun k hk=>Below.heap_alloc _ _ _ hk⟩
        have hS1:=aFy hB.size (fun g hg _=>hB.block g hg) hoi hi (fun _=>hB) (.below hB)
        have hI2:=(hI.aNX obj).aNW (ahA hoi T8 hiM hd _ st (kJ.2 (hlt hoi))) (mkF oi w.heap.size)
        have hsz:(a.put oi.dst (mkF oi w.heap.size)).tmps.size=nt:=by rw[hd,←hnt];simp[Act.put]
        have aHP:(a.put oi.dst (mkF oi w.heap.size)).tmps.getD d undef=mkF oi w.heap.size:=by
         rw[hd]
         simp[Act.put,N2,hnt,aOc]
        have hE':La P C N ops w0.hd (fun g=>if g=w.heap.size then some (true,obj) else hd1 g) M (R.setIfInBounds i true) (fun y=>if y=i then some w.heap.size else E y) (a.put oi.dst (mkF oi w.heap.size)):=by
         refine⟨hE.szM,by simpa using hE.szR,fun y=>?_,fun y g hy=>?_,fun y z g hy hz=>?_,fun y oy d' hoy hem hd' hRy=>?_,fun g v hv=>?_⟩
         ·by_cases hyi:y=i
          ·subst hyi
           rw[Of (by rw[hE.szR];exact hlt hoi),ak rfl]
           simp
          ·rw[getD_set_ne false (Ne.symm hyi),hE.rel,ah hyi]
         ·by_cases hyi:y=i
          ·rw[ak hyi]at hy
           cases hy
           subst hyi
           refine⟨kO hiM,oi,d,obj,hoi,T8,hd,⟨aFx,amc.same fun t ht=>?_,fun e he hb=>getD_set_true (ar1 e he hb)⟩,aHP,by simp,?_⟩
           ·rw[hd]
            exact nR (fun e=>aJd y oi hoi T8 ar1 (by rw[←e];exact ht)) _
           cases hz:w0.hd w.heap.size with
           |none=>rfl
           |some v =>
            obtain⟨b,ob⟩:=v
            have:=(hI.hd _ _ _ (hE.hd _ _ hz)).2.1
            omega
          ·rw[ah hyi]at hy
           obtain⟨q1,oy,dy,aJ8,q2,q3,q4,q5,q6,q7,q8⟩:=hE.early y g hy
           refine⟨q1,oy,dy,aJ8,q2,q3,q4,⟨q5.1,q5.2.1.same fun t ht=>?_,fun e he hb=>getD_set_true (q5.2.2 e he hb)⟩,?_,?_,q8⟩
           ·rw[hd]
            exact nR (fun e=>aJd y oy q2 q3 q5.2.2 (by rw[←e];exact ht)) _
           ·have hne:dy≠d:=fun e=>aL7 y oy q2 hyi (by rw[q4,e])
            rw[hd,nR hne]
            exact q6
           ·have:g≠w.heap.size:=Nat.ne_of_lt (hI.hd _ _ _ q7).2.1
            rw[ah this]
            exact q7
         ·by_cases hyi:y=i
          ·rw[ak hyi]at hy
           cases hy
           by_cases hzi:z=i
           ·rw[hyi,hzi]
           ·rw[ah hzi]at hz
            obtain⟨_,_,_,_,_,_,_,_,_,q7,_⟩:=hE.early z _ hz
            exact absurd (hI.hd _ _ _ q7).2.1 (TT _)
          ·rw[ah hyi]at hy
           by_cases hzi:z=i
           ·rw[ak hzi]at hz
            cases hz
            obtain⟨_,_,_,_,_,_,_,_,_,q7,_⟩:=hE.early y _ hy
            exact absurd (hI.hd _ _ _ q7).2.1 (TT _)
           ·rw[ah hzi]at hz
            exact hE.inj y z g hy hz
         ·by_cases hyi:y=i
          ·subst hyi
           rw[hoi]at hoy
           cases hoy
           rw[hd]at hd'
           cases hd'
           exact⟨_,aHP.trans (ame hem _)⟩
          ·rw[getD_set_ne false (Ne.symm hyi)]at hRy
           have hne:d'≠d:=fun e=>aL7 y oy hoy hyi (by rw[hd',e])
           rw[hd,nR hne]
           exact hE.z y oy d' hoy hem hd' hRy
         ·obtain⟨b,ob⟩:=v
          have hv1:=hE.hd g _ hv
          have:g≠w.heap.size:=Nat.ne_of_lt (hI.hd _ _ _ hv1).2.1
          rw[ah this]
          exact hv1
        have hih:=ih (m+1+n) (by omega) (m+1) n rfl (M:=M) (R:=R.setIfInBounds i true) (by omega) hsz hE' (by rw[hd]at *;exact hI2) WZ
        refine⟨hS1,xd n (fun l' w'' hs' hS'=>SI.step hE.szR hS1 (fun g hg ho=>?_) (fun t ht=>azx a oi _ t (ht i oi hoi (kO aHO))) (Sup.set hi) hs' hS') hih⟩
        show(if g=w.heap.size then some Key.hid else G.own g)=none
        rw[ah (Nat.ne_of_lt hg)]
        exact ho
    ·cases hr
theorem aqa (hC:∀f con,C f=some con→RJ P w0 f con){Q:Exit→Act→World→Prop}(hQ:∀c a a' w,Q (.panic c) a w→Q (.panic c) a' w)(hs:Region.noSelect ops=true)(hfd:rR P ops st.nt=true){k:St→Option α}(hK:rT w0 k r (Q .normal))
  (h:Inv w0 G st a w) (hr:GQ P C (rQ.Qw N) ops ops.size (Array.replicate ops.size false) st k=some r):wpAny P .any ops Q ops.size (Array.replicate ops.size false) a w:=by
 refine ama _ _ _ _ (aFt (hd1:=w0.hd) (E:=fun _=>none) hC hQ hs hfd hK _ _ _ rfl ?_ h.size ⟨by simp,by simp,fun i=>(by simp),fun x g hx=>(by cases hx),fun x y g hx=>(by cases hx),fun x ox d _ _ _ hx=>absurd hx (by rw[aFs];simp),fun _ _ h=>h⟩ (qP _ h) hr)
 refine cT List.countP_le_length ?_
 simp
end
end
end Go.Am
