/- No condition. -/
import Derived.Test.YtfapcfpkbahneaaGreatDoorQpAmOps7
set_option linter.all false
namespace Go.Am
open Go.RowKit
def ac6 (w:World)(ok:Nat->Prop)(a:Ty×Bool)(x:a.1.D)(v:Value):Prop :=
 ∃cs,Rd w ok a.1 x cs/\v=(match a.2 with|true=>.agg cs.toArray|false=>cs.headD undef)
def e8 (w:World)(ok:Nat->Prop):(ps:List (Ty×Bool))->Args ps->List Value->Prop
 |[],_,vs=>vs=[]|a::l,x,vs=>∃v vs',vs=v::vs'/\ac6 w ok a x.1 v/\e8 w ok l x.2 vs'
def FrC (w:World)(okE:Nat->Prop)(own:Nat->Option Nat):(t:Ty)->t.D->Nat->List Value->Prop
 |.int k,x,_,cs=>cs=[.int k x]|.bool,x,_,cs=>cs=[.bool x]|.str,x,_,cs=>cs=[.string x]|.unit,_,_,cs=>cs=[]|.pair a b,x,j,cs=>∃c1 c2,cs=c1++c2/\FrC w okE own a x.1 j c1/\FrC w okE own b x.2 (j+a.n) c2|.sl e t,xs,j,cs=>∃v rows,cs=[v]/\0<t.n/\w.ownsRow 0 e t.n v xs.length rows/\(∀g,v.ownBlock=some g->own g=some j)/\fU w okE t rows xs
def aDs (w:World)(okE:Nat->Prop)(own:Nat->Option Nat)(a:Ty×Bool)(x:a.1.D)(j:Nat)(v:Value):Prop :=
 ∃cs,FrC w okE own a.1 x j cs/\v=(match a.2 with|true=>.agg cs.toArray|false=>cs.headD undef)
def qe (w:World)(okE:Nat->Prop)(own:Nat->Option Nat):(rs:List (Ty×Bool))->Args rs->Nat->List Value->Prop
 |[],_,_,vs=>vs=[]|a::l,x,j,vs=>∃v vs',vs=v::vs'/\aDs w okE own a x.1 j v/\qe w okE own l x.2 (j+a.1.n) vs'
def ga:List Value->Value
 |[v]=>v|vs=>.tuple vs.toArray
def Zh (ok:Nat->Prop)(w w':World)(con:Con)(r:Args con.rs)(vs:List Value):Prop :=
 match con.m with
 |0=>e8 w' (fun g=>w.heap.size<=g\/ok g) con.rs r vs
 |1=>e8 w' (fun g=>w.heap.size<=g) con.rs r vs
 |_=>∃own:Nat->Option Nat,(∀g j,own g=some j->w.heap.size<=g)/\qe w' (fun g=>w.heap.size<=g/\own g=none) own con.rs r 0 vs
def YK (P : Program) (f : FuncId) : Prop := ∃ fn, P.funcs[f]? = some fn ∧ (fn.name == "runtime.NumGoroutine") = false ∧ fn.body.isNone = false
def aiF (P:Program)(w0:fR)(f:FuncId)(con:Con):Prop :=
 YK P f /\
 ∀(x:Args con.ps) (r:Args con.rs),con.g x=some r->∀(w:World),fK w0.fr w0.w w->∀(ok:Nat->Prop) (vs:List Value),e8 w ok con.ps x vs ->
  Calls P f vs.toArray w fun e w'=>∃us,e=.returned (ga us)/\Zh ok w w' con r us/\Below w.heap.size w w'
structure Tab where
 p:World->Prop
 bl:Nat->Prop
 lt:∀w,p w->∀b,bl b->b<w.heap.size
 mono:∀w w',p w->(∀b,bl b->w'.heap[b]?=w.heap[b]?)->p w'
def ato (P:Program)(T:Tab)(f:FuncId)(con:Con):Prop :=
 YK P f /\
 ∀(x:Args con.ps) (r:Args con.rs),con.g x=some r->∀(w:World),T.p w->∀(ok:Nat->Prop) (vs:List Value),e8 w ok con.ps x vs ->
  Calls P f vs.toArray w fun e w'=>∃us,e=.returned (ga us)/\Zh ok w w' con r us/\Below w.heap.size w w'
def Tab.keeps {T:Tab}{w0:fR}(hT:T.p w0.w)(hf:∀b,w0.fr b->¬T.bl b){w:World}(hK:fK w0.fr w0.w w):T.p w :=
 T.mono w0.w w hT fun b hb=>hK.block b (T.lt _ hT b hb) fun h=>hf b h hb
def nOf:List (Ty×Bool)->Nat
 |[]=>0|a::l=>a.1.n+nOf l
def aNR (w:World)(ok nw:Nat->Prop)(own:Nat->Option Nat)(g0:Nat)(pm:PM)(a:Ty×Bool)(x:a.1.D)(v:Value):Prop:=match pm with
 |.rd=>ac6 w ok a x v|.own f=>aDs w (fun g=>own g=none/\(nw g\/(f=false/\ok g))) own a x 0 v
 |.box=>v=.pointer (some ⟨g0,0,none⟩)/\(own g0).isSome=true/\∃cs e,w.heap[g0]?=some (.cells cs e (0,0))/\Rd w ok a.1 x cs.toList|.cur=>v=.pointer (some ⟨g0,0,none⟩)/\(own g0).isSome=true/\∃cs e,w.heap[g0]?=some (.cells cs e (0,0))/\Rd w (fun g=>own g=none/\nw g) a.1 x cs.toList
def Vj (w:World)(ok nw:Nat->Prop)(own:Nat->Option Nat)(g0:Nat)(pm:PM):Nat->(ps:List (Ty×Bool))->Args ps->List Value->Value->Prop
 |0,a::l,x,vs,u=>∃vs',vs=u::vs'/\aNR w ok nw own g0 pm a x.1 u/\e8 w ok l x.2 vs'|i+1,a::l,x,vs,u=>∃v vs',vs=v::vs'/\ac6 w ok a x.1 v/\Vj w ok nw own g0 pm i l x.2 vs' u|_,[],_,_,_=>False
structure Handed (w:World) (B:Nat->Prop) (ok nw:Nat->Prop) (own:Nat->Option Nat):Prop where
 mD:∀g,w.heap.size<=g->nw g
 bK:∀g j,own g=some j->nw g/\g<w.heap.size/\B g
 dZ:∀g,ok g->own g=none
def ani (con:OR)(w w':World)(ok nw:Nat->Prop)(own:Nat->Option Nat)(g0:Nat)(u:Value)(r:Args con.rs×Args con.qs)(us:List Value):Prop :=
 ∃cj:Nat->Option Nat,(∀g j,cj g=some j->w.heap.size<=g\/(own g).isSome=true) /\
  (match con.pm with
   |.rd=>True|.own _=>qe w' (fun g=>cj g=none/\(nw g\/(m2 con.m=false/\ok g))) cj con.qs r.2 (nOf con.rs) (match con.qs with|[]=>[]|_=>[u])
   |.box=>(∃j,cj g0=some j/\nOf con.rs<=j)/\∃cs e,w'.heap[g0]?=some (.cells cs e (0,0))/\e8 w' (fun g=>cj g=none/\(nw g\/ok g)) con.qs r.2 [.agg cs]
   |.cur=>(∃j,cj g0=some j/\nOf con.rs<=j)/\∃cs e,w'.heap[g0]?=some (.cells cs e (0,0))/\e8 w' (fun g=>cj g=none/\nw g) con.qs r.2 [.agg cs]) /\
  (match con.m with
   |0=>e8 w' (fun g=>cj g=none/\(nw g\/ok g)) con.rs r.1 us
   |1=>e8 w' (fun g=>cj g=none/\nw g) con.rs r.1 us
   |4=>∃b cs e,us=[.pointer (some ⟨b,0,none⟩)]/\w.heap.size<=b/\(cj b).isSome=true/\w'.heap[b]?=some (.cells cs e (0,0))/\e8 w' (fun g=>cj g=none/\nw g) con.rs r.1 [.agg cs]
   |5=>∃b cs e,us=[.pointer (some ⟨b,0,none⟩)]/\w.heap.size<=b/\(cj b).isSome=true/\w'.heap[b]?=some (.cells cs e (0,0))/\e8 w' (fun g=>cj g=none/\(nw g\/ok g)) con.rs r.1 [.agg cs]
   |_=>qe w' (fun g=>cj g=none/\(nw g\/(m2 con.m=false/\ok g))) cj con.rs r.1 0 us)
def aE7 (con:OR):Prop:=con.qs=[]\/∃p,con.qs=[p]/\og con.ps con.i=some p
def aG9 (P:Program)(f:FuncId)(i:Idx)(W:World):Prop :=
 ∀(xs:List i.a.1.D) (y:i.q.D) (s:Value) (B:Nat) (cs:Array Value) (e e':TypeId),Rd W (fun _=>True) (.sl e' i.a.1) xs [s]->W.heap[B]?=some (.cells cs e (0,0))->Rd W (fun _=>True) i.q y cs.toList ->
  Calls P f #[s,.func (.func i.g) #[] #[.pointer (some ⟨B,0,none⟩)]] W fun e w'=>e=.returned (.int .i64 (qW (fun x=>i.p x y) xs 0))/\Below W.heap.size W w'
def atp (P:Program)(f:FuncId)(e:TypeId)(u:Ty)(W:World):Prop :=
 ∀(s v:Value) (n m i:Nat) (cs ds:List Value),W.ownsRow 0 e u.n s n cs->W.ownsRow 0 e u.n v m ds->(∀g,s.ownBlock=some g->v.ownBlock≠some g)->1<=m->i<=n->n+m<=1073741824->(∀u∈cs,u.oneCell'=true)->(∀u∈ds,u.oneCell'=true) ->
  Calls P f #[s,.int .i64 i,v] W fun e' w'=>∃v',e'=.returned v'/\w'.ownsRow 0 e u.n v' (n+m) (cs.take (i*u.n)++ds++cs.drop (i*u.n))/\W.grownBy w' s.ownBlock/\(v'.ownBlock=s.ownBlock\/∀g,v'.ownBlock=some g->W.heap.size<=g)
def aDt (P:Program)(f:FuncId)(e:TypeId)(u:Ty)(W:World):Prop :=
 ∀(s:Value) (n i j:Nat) (cs:List Value),W.ownsRow 0 e u.n s n cs->i<=j->j<=n->(∀u∈cs,u.oneCell'=true) ->
  Calls P f #[s,.int .i64 i,.int .i64 j] W fun e' w'=>∃v',e'=.returned v'/\w'.ownsRow 0 e u.n v' (i+(n-j)) (cs.take (i*u.n)++cs.drop (j*u.n))/\W.grownBy w' s.ownBlock/\(v'.ownBlock=s.ownBlock\/∀g,v'.ownBlock=some g->W.heap.size<=g)
def abd (P:Program)(w0:fR)(f:FuncId)(con:OR):Prop :=
 YK P f/\aE7 con /\
 ∀(x:Args con.ps) (r:Args con.rs×Args con.qs),con.g x=some r->∀(w:World),fK w0.fr w0.w w->∀(ok nw:Nat->Prop) (own:Nat->Option Nat) (g0:Nat) (vs:List Value) (u:Value),
  Handed w (fun g=>w0.w.heap.size<=g\/w0.fr g) ok nw own->Vj w ok nw own g0 con.pm con.i con.ps x vs u ->
  Calls P f vs.toArray w fun e w'=>∃us,e=.returned (ga us)/\ani con w w' ok nw own g0 u r us/\fK (fun g=>(own g).isSome=true) w w'
def anj (P:Program)(T:Tab)(f:FuncId)(con:OR):Prop :=
 YK P f/\aE7 con /\
 ∀(x:Args con.ps) (r:Args con.rs×Args con.qs),con.g x=some r->∀(w:World),T.p w->∀(ok nw:Nat->Prop) (own:Nat->Option Nat) (g0:Nat) (vs:List Value) (u:Value),
  Handed w (fun g=>¬T.bl g) ok nw own->Vj w ok nw own g0 con.pm con.i con.ps x vs u ->
  Calls P f vs.toArray w fun e w'=>∃us,e=.returned (ga us)/\ani con w w' ok nw own g0 u r us/\fK (fun g=>(own g).isSome=true) w w'
def aL6 (con:Sel):OR:=⟨con.ps,con.i,.own true,[con.a,con.b],2,[],fun _=>none⟩
def aNS (con:Sel):OR:=⟨con.ps,con.i,.own true,[con.b],2,[con.q],fun _=>none⟩
def aJR (con:Sel)(w w':World)(ok nw:Nat->Prop)(own:Nat->Option Nat)(g0:Nat)(u:Value)(r:con.a.1.D×con.b.1.D×con.q.1.D)(us:List Value):Prop :=
 ∃va vb,us=[va,vb]/\(match amU con.b.1 r.2.1 with
  |true=>ani (aL6 con) w w' ok nw own g0 u ((r.1,(r.2.1,())),()) [va,vb]|false=>ani (aNS con) w w' ok nw own g0 u ((r.2.1,()),(r.2.2,())) [vb]/\(con.a.2=true->∃vs,va=.agg vs/\vs.toList.length=con.a.1.n/\∀c∈vs.toList,c.oneCell'=true))
def avn (P:Program)(w0:fR)(f:FuncId)(con:Sel):Prop :=
 YK P f/\og con.ps con.i=some con.q /\
 ∀(x:Args con.ps) (r:con.a.1.D×con.b.1.D×con.q.1.D),con.g x=some r->∀(w:World),fK w0.fr w0.w w->∀(ok nw:Nat->Prop) (own:Nat->Option Nat) (g0:Nat) (vs:List Value) (u:Value),
  Handed w (fun g=>w0.w.heap.size<=g\/w0.fr g) ok nw own->Vj w ok nw own g0 (.own true) con.i con.ps x vs u ->
  Calls P f vs.toArray w fun e w'=>∃us,e=.returned (ga us)/\aJR con w w' ok nw own g0 u r us/\fK (fun g=>(own g).isSome=true) w w'
def ank (P:Program)(T:Tab)(f:FuncId)(con:Sel):Prop :=
 YK P f/\og con.ps con.i=some con.q /\
 ∀(x:Args con.ps) (r:con.a.1.D×con.b.1.D×con.q.1.D),con.g x=some r->∀(w:World),T.p w->∀(ok nw:Nat->Prop) (own:Nat->Option Nat) (g0:Nat) (vs:List Value) (u:Value),
  Handed w (fun g=>¬T.bl g) ok nw own->Vj w ok nw own g0 (.own true) con.i con.ps x vs u ->
  Calls P f vs.toArray w fun e w'=>∃us,e=.returned (ga us)/\aJR con w w' ok nw own g0 u r us/\fK (fun g=>(own g).isSome=true) w w'
def tX (P:Program)(T:Tab)(f:FuncId):Any->Prop
 |.one c=>ato P T f c|.two c=>anj P T f c|.sel c=>ank P T f c|.idx i=>YK P f/\∀W,T.p W->aG9 P f i W|.ins e u=>YK P f/\∀W,T.p W->atp P f e u W|.del e u=>YK P f/\∀W,T.p W->aDt P f e u W
def SG (P:Program)(w0:fR)(f:FuncId):Any->Prop
 |.one c=>aiF P w0 f c|.two c=>abd P w0 f c|.sel c=>avn P w0 f c|.idx i=>YK P f/\∀W,fK w0.fr w0.w W->aG9 P f i W|.ins e u=>YK P f/\∀W,fK w0.fr w0.w W->atp P f e u W|.del e u=>YK P f/\∀W,fK w0.fr w0.w W->aDt P f e u W
def ato.at {P:Program}{T:Tab}{f:FuncId}{con:Con}(h:ato P T f con){w0:fR}(hT:T.p w0.w)(hf:∀b,w0.fr b->¬T.bl b):aiF P w0 f con :=
 ⟨h.1,fun x r hg w hB=>h.2 x r hg w (T.keeps hT hf hB)⟩
def anj.at {P:Program}{T:Tab}{f:FuncId}{con:OR}(h:anj P T f con){w0:fR}(hT:T.p w0.w)(hf:∀b,w0.fr b->¬T.bl b):abd P w0 f con :=
 ⟨h.1,h.2.1,fun x r hg w hB ok nw own g0 vs u hh hin=>h.2.2 x r hg w (T.keeps hT hf hB) ok nw own g0 vs u ⟨hh.mD,fun g j hj=>⟨(hh.bK g j hj).1,(hh.bK g j hj).2.1,fun hb=>by
  rcases(hh.bK g j hj).2.2 with h1|h1
  .have:=T.lt _ hT g hb;omega
  .exact hf g h1 hb⟩,hh.dZ⟩ hin⟩
def ank.at {P:Program}{T:Tab}{f:FuncId}{con:Sel}(h:ank P T f con){w0:fR}(hT:T.p w0.w)(hf:∀b,w0.fr b->¬T.bl b):avn P w0 f con :=
 ⟨h.1,h.2.1,fun x r hg w hB ok nw own g0 vs u hh hin=>h.2.2 x r hg w (T.keeps hT hf hB) ok nw own g0 vs u ⟨hh.mD,fun g j hj=>⟨(hh.bK g j hj).1,(hh.bK g j hj).2.1,fun hb=>by
  rcases(hh.bK g j hj).2.2 with h1|h1
  .have:=T.lt _ hT g hb;omega
  .exact hf g h1 hb⟩,hh.dZ⟩ hin⟩
def tX.at {P:Program}{T:Tab}{f:FuncId}{con:Any}(h:tX P T f con){w0:fR}(hT:T.p w0.w)(hf:∀b,w0.fr b->¬T.bl b):SG P w0 f con:=by
 cases con with
 |one c=>exact ato.at h hT hf|two c=>exact anj.at h hT hf|sel c=>exact ank.at h hT hf|idx i=>exact⟨h.1,fun W hK=>h.2 W (T.keeps hT hf hK)⟩
 |ins e u=>exact⟨h.1,fun W hK=>h.2 W (T.keeps hT hf hK)⟩
 |del e u=>exact⟨h.1,fun W hK=>h.2 W (T.keeps hT hf hK)⟩
section
variable {P:Program} {w0:fR} {w:World} {G:Gh} {st:St} {a:Act} {U:Type} {k:St->Option U} {r:U} {K:Act->World->Prop} {Q:Exit->Act->World->Prop} {o:Oper}
def aBl (h:Inv w0 G st a w){ok:Nat->Prop}{p:Ty×Bool}{x:CV}{u:Value}{y:p.1.D}(hr:fv G w st.bx st.bl x u)
  (hc:∀t c v xs,c∈x.cells->bS G w st.bx st.bl c v->dm st t c=some xs->∀e,Rd w ok (.sl e t) xs [v]) (hi:imV st p x=some y):ac6 w ok p y u:=by
 unfold imV at hi;split at hi
 .rename_i l hb;split at hi
  .rename_i z hz;cases hi;obtain⟨cs,hv,hrel⟩:=hr;obtain⟨vs1,vs2,he,kz,hr2,_⟩:=OV (ok:=ok) hc hrel hz;cases vs2 with
   |cons _ _=>exact hr2.elim
   |nil =>
    rw[iz]at he;refine⟨vs1,kz,?_⟩;rw[hb,hv,<-he]
  .cases hi
 .rename_i c hb;split at hi
  .rename_i z hz;cases hi;obtain⟨vs1,vs2,he,kz,hr2,_⟩:=OV (ok:=ok) (l:=[c]) (vs:=[u]) hc ⟨hr,trivial⟩ hz;cases vs2 with
   |cons _ _=>exact hr2.elim
   |nil =>
    rw[iz]at he;refine⟨vs1,kz,?_⟩;rw[hb,<-he];rfl
  .cases hi
 .cases hi
def avo (h:Inv w0 G st a w){ok:Nat->Prop}{p:Ty×Bool}{x:Operand}{y:p.1.D}
  (hc:∀t c v xs,c∈(st.eZ x).cells->bS G w st.bx st.bl c v->dm st t c=some xs->∀e,Rd w ok (.sl e t) xs [v]) (hi:im1 st p x=some y):ac6 w ok p y (a.eval x) :=
 aBl h (h.eZ x) hc hi
def aDu (h:Inv w0 G st a w){ok:Nat->Prop}:∀(ps:List (Ty×Bool)) (cs:List CV) (vs:List Value) (x:Args ps),cT (fv G w st.bx st.bl) cs vs ->
  (∀t c v xs,c∈aW cs->bS G w st.bx st.bl c v->dm st t c=some xs->∀e,Rd w ok (.sl e t) xs [v])->BE st ps cs=some x->e8 w ok ps x vs
 |[],[],[],x,_,_,hi=>rfl|[],[],_::_,_,h,_,_=>h.elim|_,_::_,[],_,h,_,_=>h.elim|[],_::_,_::_,x,_,_,hi=>by simp[BE]at hi
 |_::_,[],_,x,_,_,hi=>by simp[BE]at hi
 |p::ps,y::os,v::vs,x,hr,hc,hi=>by
  simp only[BE]at hi;split at hi
  .rename_i z hz;split at hi
   .rename_i zs hzs;cases hi;exact⟨v,vs,rfl,aBl h hr.1 (fun t c v xs hm=>hc t c v xs (by simp[aW,hm])) hz,aDu h ps os vs zs hr.2 (fun t c v xs hm=>hc t c v xs (by simp[aW,hm])) hzs⟩
   .cases hi
  .cases hi
def I8 (h:Inv w0 G st a w){ok:Nat->Prop}:∀(ps:List (Ty×Bool)) (os:List Operand) (x:Args ps),
  (∀t c v xs,c∈kZ st os->bS G w st.bx st.bl c v->dm st t c=some xs->∀e,Rd w ok (.sl e t) xs [v])->Oe st ps os=some x->e8 w ok ps x (os.map a.eval)
 |[],[],x,_,hi=>rfl|[],_::_,x,_,hi=>by simp[Oe]at hi
 |_::_,[],x,_,hi=>by simp[Oe]at hi
 |p::ps,y::os,x,hc,hi=>by
  simp only[Oe]at hi;split at hi
  .rename_i z hz;split at hi
   .rename_i zs hzs;cases hi;exact⟨a.eval y,os.map a.eval,rfl,avo h (fun t c v xs hm=>hc t c v xs (by simp[kZ,hm])) hz,I8 h ps os zs (fun t c v xs hm=>hc t c v xs (by simp[kZ,hm])) hzs⟩
   .cases hi
  .cases hi
def Vk (h:Inv w0 G st a w):∀t c v xs,bS G w st.bx st.bl c v->dm st t c=some xs->∀e,Rd w (fun _=>True) (.sl e t) xs [v] :=
 fun t c v xs hr hd=>kL h hr hd (fun _ _ _ _ _=>⟨fun _ _=>trivial,fun _ _ _=>trivial⟩) (fun _ _ _ _ _ _ _=>trivial)
structure aNT (w:World) (okE:Nat->Prop) (f:Bool) (own:Nat->Option Nat) (id:Nat) (z:Nat×gB×Value):Prop where
 wr:z.2.1.w=true
 nf:z.2.1.f=(f || flat z.2.1.t)
 pos:0<z.2.1.t.n
 row:∃rows,w.ownsRow 0 z.2.1.e z.2.1.t.n z.2.2 z.2.1.xs.length rows/\fU w okE z.2.1.t rows z.2.1.xs
 rZ:∀g,z.2.2.ownBlock=some g->own g=some (z.1-id*64)
def uk (L:List (Nat×gB×Value)):AC->Value->Prop
 |.int k n,v=>v=.int k n|.bool b,v=>v=.bool b|.str s,v=>v=.string s|.own i none,v=>∃b,(i,b,v)∈L|_,_=>False
def uk.Ez {L L':List (Nat×gB×Value)}(h:∀z∈L,z∈L'):∀{c:AC} {v:Value},uk L c v->uk L' c v
 |.int _ _,_,hc=>hc|.bool _,_,hc=>hc|.str _,_,hc=>hc|.own i none,v,⟨b,hb⟩=>⟨b,h _ hb⟩|.own i (some l),v,hc=>hc.elim|.none,_,hc=>hc.elim|.nil,_,hc=>hc.elim|.ro _ _ _ _,_,hc=>hc.elim|.ptr _ _,_,hc=>hc.elim|.LI _ _ _,_,hc=>hc.elim|.UA _ _ _ _,_,hc=>hc.elim|.fnp _ _,_,hc=>hc.elim|.any,_,hc=>hc.elim
structure Fr (w:World) (okE:Nat->Prop) (f:Bool) (own:Nat->Option Nat) (id lo hi:Nat) (q:List (Nat×Option gB)) (L:List (Nat×gB×Value)):Prop where
 q:q=L.map fun z=>(z.1,some z.2.1)
 rows:∀z∈L,id*64+lo<=z.1/\z.1<id*64+hi/\aNT w okE f own id z
 uniq:∀z∈L,∀z'∈L,z.1=z'.1->z=z'
def Fr.nil {w:World}{okE:Nat->Prop}{f:Bool}{own:Nat->Option Nat}{id lo hi:Nat}:Fr w okE f own id lo hi [] []:=⟨rfl,fun z hz=>by simp at hz,fun z hz=>by simp at hz⟩
def Fr.app {w:World}{okE:Nat->Prop}{f:Bool}{own:Nat->Option Nat}{id lo mid hi:Nat}{q q':List (Nat×Option gB)}{L L':List (Nat×gB×Value)}(h:Fr w okE f own id lo mid q L)(h':Fr w okE f own id mid hi q' L')(h1:lo<=mid)(h2:mid<=hi) :
  Fr w okE f own id lo hi (q++q') (L++L'):=by
 refine⟨by rw[h.q,h'.q,ait],fun z hz=>?_,fun z hz z' LH he=>?_⟩
 .rcases jx.1 hz with hz|hz
  .obtain⟨h3,h4,h5⟩:=h.rows z hz;exact⟨h3,by omega,h5⟩
  .obtain⟨h3,h4,h5⟩:=h'.rows z hz;exact⟨by omega,h4,h5⟩
 .rcases jx.1 hz with hz|hz<;>rcases jx.1 LH with LH|LH
  .exact h.uniq z hz z' LH he
  .have:=(h.rows z hz).2.1;have:=(h'.rows z' LH).1;omega
  .have:=(h'.rows z hz).1;have:=(h.rows z' LH).2.1;omega
  .exact h'.uniq z hz z' LH he
def aBm {w:World}{okE:Nat->Prop}{f:Bool}{own:Nat->Option Nat}{id:Nat}:∀{t:Ty} {x:t.D} {j:Nat} {cs:List Value},FrC w okE own t x j cs ->
  ∃L,Fr w okE f own id j (j+t.n) (exR id f t x j).2 L/\cT (uk L) (exR id f t x j).1 cs
 |.int k,x,j,cs,h=>⟨[],.nil,by rw[show cs=_ from h];exact⟨rfl,trivial⟩⟩
 |.bool,x,j,cs,h=>⟨[],.nil,by rw[show cs=_ from h];exact⟨rfl,trivial⟩⟩
 |.str,x,j,cs,h=>⟨[],.nil,by rw[show cs=_ from h];exact⟨rfl,trivial⟩⟩
 |.unit,x,j,cs,h=>⟨[],.nil,by rw[show cs=_ from h];trivial⟩
 |.pair a b,x,j,cs,h=>by obtain⟨c1,c2,rfl,h1,h2⟩:=h;obtain⟨L1,h3,h4⟩:=aBm (id:=id) h1;obtain⟨L2,h5,h6⟩:=aBm (id:=id) h2;refine⟨L1++L2,?_,cT.app (h4.imp fun _ _=>uk.Ez fun z hz=>by simp[hz]) (h6.imp fun _ _=>uk.Ez fun z hz=>by simp[hz])⟩;have:=h3.app h5 (by omega) (by omega);rw[UX]at this;exact this
 |.sl e t,xs,j,cs,h=>by
  obtain⟨v,rows,rfl,hp,ho,hb,he⟩:=h;refine⟨[(id*64+j,⟨e,t,xs,f || flat t,true⟩,v)],⟨rfl,fun z hz=>?_,fun z hz z' LH _=>?_⟩,⟨⟨e,t,xs,f || flat t,true⟩,by simp⟩,trivial⟩
  .simp at hz;subst hz;refine⟨bZ _,by simp[Ty.n],rfl,rfl,hp,⟨rows,ho,he⟩,fun g hg=>?_⟩;rw[hb g hg]
   congr 1
   omega
  .simp at hz LH;rw[hz,LH]
def ax5 (L:List (Nat×gB×Value)):CV->Value->Prop
 |.c x,v=>uk L x v|.agg l,v=>∃cs,v=.agg cs/\cT (uk L) l cs.toList
def ax5.Ez {L L':List (Nat×gB×Value)}(h:∀z∈L,z∈L'){c:CV}{v:Value}(hc:ax5 L c v):ax5 L' c v:=by
 cases c with
 |c x=>exact uk.Ez h hc
 |agg l =>
  obtain⟨cs,he,hr⟩:=hc;exact⟨cs,he,hr.imp fun _ _=>uk.Ez h⟩
def aHa {w:World}{okE:Nat->Prop}{f:Bool}{own:Nat->Option Nat}{id:Nat}{p:Ty×Bool}{x:p.1.D}{j:Nat}{v:Value}(h:aDs w okE own p x j v)(hs:p.2=true\/p.1.n=1) :
  ∃L,Fr w okE f own id j (j+p.1.n) (ex1 id f p x j).2 L/\ax5 L (ex1 id f p x j).1 v:=by
 obtain⟨cs,h1,h2⟩:=h;obtain⟨L,h3,h4⟩:=aBm (id:=id) h1;refine⟨L,h3,?_⟩;obtain⟨t,ag⟩:=p;cases ag with
 |true=>exact⟨cs.toArray,h2,h4⟩
 |false =>
  have hn:t.n=1:=by simpa using hs
  have:cs.length=1:=by
   have hl:∀{t:Ty} {x:t.D} {j:Nat} {cs:List Value},FrC w okE own t x j cs->cs.length=t.n:=by
    intro t
    induction t with
    |int k=>intro x j cs h;rw[show cs=_ from h];rfl
    |bool=>intro x j cs h;rw[show cs=_ from h];rfl
    |str=>intro x j cs h;rw[show cs=_ from h];rfl
    |unit=>intro x j cs h;rw[show cs=_ from h];rfl
    |pair a b iha ihb =>
     intro x j cs h;obtain⟨c1,c2,rfl,h1,h2⟩:=h;simp[Ty.n,iha h1,ihb h2]
    |sl e t _ =>
     intro x j cs h;obtain⟨v,rows,rfl,_⟩:=h;rfl
   rw[hl h1];exact hn
  obtain⟨u,rfl⟩:∃u,cs=[u]:=by
   cases cs with
   |nil=>simp at this
   |cons u cs =>
    cases cs with
    |nil=>exact⟨u,rfl⟩|cons _ _=>simp at this
  show uk L (match (exR id f t x j).1 with|[c]=>c|_=>.none) v;rw[show v=u from h2]
  revert h4
  generalize (exR id f t x j).1=l;intro h4;cases l with
  |nil=>exact h4.elim
  |cons c l =>
   cases l with
   |nil=>exact h4.1|cons _ _=>exact h4.2.elim
def ac7 {w:World}{okE:Nat->Prop}{f:Bool}{own:Nat->Option Nat}{id:Nat}:∀{rs:List (Ty×Bool)} {x:Args rs} {j:Nat} {vs:List Value},fu rs=true->qe w okE own rs x j vs ->
  ∃L,Fr w okE f own id j (j+nOf rs) (mq id f rs x j).2 L/\cT (ax5 L) (mq id f rs x j).1 vs
 |[],x,j,vs,_,h=>⟨[],.nil,by rw[show vs=[] from h];trivial⟩
 |a::l,x,j,vs,hf,h=>by obtain⟨v,vs',rfl,h1,h2⟩:=h;simp only[fu,aI,kE]at hf;obtain⟨L1,h3,h4⟩:=aHa (id:=id) (f:=f) h1 (hf.1.imp_right aP);obtain⟨L2,h5,h6⟩:=ac7 (id:=id) (f:=f) hf.2 h2;have h7:=h3.app h5 (by omega) (by omega);rw[UX]at h7;exact⟨L1++L2,h7,h4.Ez fun z hz=>by simp[hz],h6.imp fun _ _=>ax5.Ez fun z hz=>by simp[hz]⟩
def ac8 {L:List (Nat×gB×Value)}{i:Nat}:∀{b:gB},look (L.map fun z=>(z.1,some z.2.1)) i=some (some b)->∃v,(i,b,v)∈L:=by
 induction L with
 |nil=>intro b h;simp[look]at h
 |cons z L ih =>
  intro b h;rw[tW,aw]at h;by_cases hi:z.1=i
  .simp only[hi,iA]at h;cases h;refine⟨z.2.2,?_⟩;rw[<-hi];simp
  .simp only[hi,hZ]at h;obtain⟨v,hv⟩:=ih h;exact⟨v,by simp[hv]⟩
def ld {L:List (Nat×gB×Value)}{z:Nat×gB×Value}(h:z∈L):(look (L.map fun z=>(z.1,some z.2.1)) z.1).isSome=true:=by
 induction L with
 |nil=>simp at h
 |cons y L ih =>
  rw[tW,aw];by_cases hi:y.1=z.1
  .simp[hi]
  .simp only[hi,hZ];rcases dE.1 h with rfl|h
   .exact absurd rfl hi
   .exact ih h
def hvL (L:List (Nat×gB×Value))(i:Nat):Value:=match L.find? (·.1==i) with|some z=>z.2.2|none=>undef
def X4 {L:List (Nat×gB×Value)}(hu:∀z∈L,∀z'∈L,z.1=z'.1->z=z'){z:Nat×gB×Value}(h:z∈L):hvL L z.1=z.2.2:=by
 unfold hvL;cases hf:L.find? (·.1==z.1) with
 |none =>
  have:=amG.1 hf z h;simp at this
 |some y =>
  have h1:=aiu hf;have h2:=US hf;have:=hu y h2 z h (by simpa using h1);rw[this]
def CN:∀{q:List (Nat×Option gB)},gN q st=true->∀id,(look q id).isSome=true->look st.bl id=none
 |[],_,id,h=>by simp[look]at h
 |(i,b)::q,hf,id,h=>by
  simp only[gN,aI]at hf;rw[aw]at h;by_cases hi:i=id
  .subst hi;cases hl:look st.bl i with
   |none=>rfl|some x=>rw[hl]at hf;simp at hf
  .simp only[hi,hZ]at h;exact CN hf.2 id h
def yC {R:CV->Value->Prop}{G:Gh}{w:World}{bx:List (Nat×List AC)}{bl:List (Nat×Option gB)}{cs:List CV}{vs:List Value}(h:cT (fv G w bx bl) cs vs) :
  kf G w bx bl (Jt cs) (ga vs):=by
 cases cs with
 |nil =>
  cases vs with
  |nil=>exact⟨_,rfl,trivial⟩|cons _ _=>exact h.elim
 |cons c cs =>
  cases vs with
  |nil=>exact h.elim
  |cons v vs =>
   cases cs with
   |nil =>
    cases vs with
    |nil=>exact h.1|cons _ _=>exact h.2.elim
   |cons c' cs =>
    cases vs with
    |nil=>exact h.2.elim|cons v' vs=>exact⟨_,rfl,h⟩
def CO {f:Bool}{G:Gh}{w:World}{bx:List (Nat×List AC)}{bl:List (Nat×Option gB)}:∀{rs:List (Ty×Bool)} {x:Args rs} {vs:List Value},fu rs=true->e8 w (RO G f) rs x vs ->
  cT (fv G w bx bl) (exF f rs x) vs
 |[],x,vs,_,h=>by rw[show vs=[] from h];trivial
 |a::l,x,vs,hf,h=>by
  obtain⟨v,vs',rfl,⟨cs,h1,h2⟩,h3⟩:=h;simp only[fu,aI,kE]at hf;have h4:=CO (bx:=bx) (bl:=bl) hf.2 h3;have hrel:=Vb (bx:=bx) (bl:=bl) h1;refine⟨?_,h4⟩;obtain⟨t,ag⟩:=a;cases ag with
  |true=>exact⟨cs.toArray,h2,hrel⟩
  |false =>
   have hn:t.n=1:=by
    rcases hf.1 with h|h
    .cases h
    .exact aP h
   obtain⟨u,rfl⟩:=Jz h1 hn;show bS G w bx bl (match ex f t x.1 with|[c]=>c|_=>.none) v;rw[show v=u from h2]
   revert hrel
   generalize ex f t x.1=l';intro hrel;cases l' with
   |nil=>exact hrel.elim
   |cons c l' =>
    cases l' with
    |nil=>exact hrel.1|cons _ _=>exact hrel.2.elim
def kM {w:World}{ok ok':Nat->Prop}(h:∀g,ok g->ok' g):∀{ps:List (Ty×Bool)} {x:Args ps} {vs:List Value},e8 w ok ps x vs->e8 w ok' ps x vs
 |[],_,_,hr=>hr|a::l,x,vs,hr=>by obtain⟨v,vs',rfl,⟨cs,h1,h2⟩,h3⟩:=hr;exact⟨v,vs',rfl,⟨cs,jE h h1,h2⟩,kM h h3⟩
def aHb {rs:List (Ty×Bool)}(Gw:fu rs=true){w':World}(h:Inv w0 G st a w)(hB:Below w.heap.size w w'){y:Args rs}{us:List Value}
  (df:∃own:Nat->Option Nat,(∀g j,own g=some j->w.heap.size<=g)/\qe w' (fun g=>w.heap.size<=g/\own g=none) own rs y 0 us) {d:Tmp} (hc2:Nat.blt d st.nt=true) (hc1:gN (mq d true rs y 0).2 st=true)
  (hr:(k {(st.put d (Jt (mq d true rs y 0).1)) with bl:=(mq d true rs y 0).2++st.bl})=some r) (hK:sg w0 k r K) :
  K (a.put (some d) (ga us)) w':=by
 have hg:w.grownBy w' none:=⟨hB.os,hB.tape,hB.output,hB.size,fun k hk _=>hB.block k hk⟩
 .obtain⟨own,bK,hfr⟩:=df;obtain⟨L,hF,hcv⟩:=ac7 (id:=d) (f:=true) Gw hfr;have hq:=hF.q
  let nw:Nat->Option Nat:=fun g=>match own g with
   |some j=>match L.find? (·.1==d*64+j) with
    |some z=>if z.2.2.ownBlock=some g then some z.1 else none|none=>none
   |none=>none
  have hnw:∀g id,nw g=some id->∃z∈L,z.1=id/\z.2.2.ownBlock=some g:=by
   intro g id hn;simp only[nw]at hn;split at hn
   .split at hn
    .rename_i z hz;split at hn
     .cases hn;exact⟨z,US hz,rfl,by assumption⟩
     .cases hn
    .cases hn
   .cases hn
  have aPU:∀z∈L,∀g,z.2.2.ownBlock=some g->nw g=some z.1:=by
   intro z hz g hg;have hb:=(hF.rows z hz).2.2.rZ g hg;have hlo:=(hF.rows z hz).1;simp only[nw,hb];have hj:d*64+(z.1-d*64)=z.1:=Nat.add_sub_of_le hlo;rw[hj];cases hf:L.find? (·.1==z.1) with
   |none =>
    have:=amG.1 hf z hz;simp at this
   |some y =>
    have h1:=aiu hf;have h2:=US hf;have:=hF.uniq y h2 z hz (by simpa using h1);subst this;simp[hg]
  have aPV:∀g,own g=none->nw g=none:=by intro g hg;simp only[nw,hg]
  have hxt:=h.ax3 none hg (fun g hg=>by cases hg) (mq d true rs y 0).2 (hvL L) nw (fun g id hn=>by obtain⟨z,hz,_,hzb⟩:=hnw g id hn;exact .inl (bK g _ ((hF.rows z hz).2.2.rZ g hzb)))
  have hro:∀g,w.heap.size<=g/\own g=none->RO (G.grow none (mq d true rs y 0).2 (hvL L) nw) true g:=by
   intro g hg;refine⟨?_,.inl <| h.axV hg.1⟩;have:G.own g=none:=by
    cases ho:G.own g with
    |none=>rfl|some k=>have:=(h.own _ _ ho).2.1;omega
   simp[Gh.grow,aPV g hg.2,this]
  obtain⟨hinv,_,hst⟩:=h.grow none hg (fun g hg=>by cases hg) (mq d true rs y 0).2 (hvL L) nw (fun id hs=>CN hc1 id hs)
   (fun g id hn=>by
    obtain⟨z,hz,rfl,hzb⟩:=hnw g id hn;obtain⟨h1,h2,h3⟩:=hF.rows z hz;refine⟨by rw[hq];exact ld hz,by rw[X4 hF.uniq hz];exact hzb,?_,.inl (bK g _ (h3.rZ g hzb))⟩;obtain⟨rows,ho,_⟩:=h3.row;rcases ho.2 with ⟨he,_⟩|⟨g',cap,cur,he,_,hh,_⟩
    .rw[he]at hzb;simp[Value.ownBlock]at hzb
    .rw[he]at hzb;have:g'=g:=by simpa [Value.ownBlock]using hzb
     subst this;exact(Bj.1 hh).1)
   (fun id b hb=>by
    have hb0:=hb;rw[hq]at hb;obtain⟨v,hv⟩:=ac8 hb;obtain⟨h1,h2,h3⟩:=hF.rows _ hv;have hhv:(G.grow none (mq d true rs y 0).2 (hvL L) nw).hv id=v:=by
     have:(look (mq d true rs y 0).2 id).isSome=true:=by rw[hb0];rfl
     simp only[Gh.grow,this,iA];exact X4 hF.uniq hv
    obtain⟨rows,ho,FA⟩:=h3.row;refine⟨fun _=>⟨rows,?_,?_,?_⟩,fun hw=>?_,h3.pos⟩
    .rw[hhv];refine⟨ho.1,?_⟩;rcases ho.2 with h4|⟨g',cap,cur,he,CL,r⟩
     .exact .inl h4
     .exact .inr ⟨g',cap,cur,he,aT _,r⟩
    .rw[hhv];intro g hg;have:=aPU _ hv g hg;simp[Gh.grow,this]
    .have hf:b.f=true:=by rw[show b.f=_ from h3.nf];rfl
     rw[hf];exact mE hro FA
    .have:=h3.wr;rw[show b.w=true from this]at hw;cases hw)
  have hrel:cT (fv (G.grow none (mq d true rs y 0).2 (hvL L) nw) w' st.bx ((mq d true rs y 0).2++st.bl)) (mq d true rs y 0).1 us:=by
   have cell:∀c v,uk L c v->bS (G.grow none (mq d true rs y 0).2 (hvL L) nw) w' st.bx ((mq d true rs y 0).2++st.bl) c v:=by
    intro c v hc;cases c with
    |own i len =>
     cases len with
     |some l=>exact hc.elim
     |none =>
      obtain⟨b,hb⟩:=hc;have hs:=ld hb;rw[<-hq]at hs;have hhv:(G.grow none (mq d true rs y 0).2 (hvL L) nw).hv i=v:=by simp only[Gh.grow,hs,iA];exact X4 hF.uniq hb
      refine⟨?_,?_,hhv.symm⟩
      .rw[eo];cases hl:look (mq d true rs y 0).2 i with
       |none=>rw[hl]at hs;cases hs|some x=>rfl
      .rw[hhv];obtain⟨rows,ho,_⟩:=(hF.rows _ hb).2.2.row;rcases ho.2 with ⟨he,_⟩|⟨g',cap,cur,he,_⟩
       .exact⟨_,_,_,he⟩
       .exact⟨_,_,_,he⟩
    |int k n=>exact hc|bool b=>exact hc|str s=>exact hc|_=>exact hc.elim
   refine hcv.imp fun c v hc=>?_
   cases c with
   |c x=>exact cell x v hc
   |agg l =>
    obtain⟨cs,he,hl⟩:=hc;exact⟨cs,he,hl.imp cell⟩
  have h2:=hinv.put d (iD hc2) (yC (R:=fun _ _=>True) hrel);exact hK _ _ _ _ h2 hr
def aDw {rs:List (Ty×Bool)}(Gw:fu rs=true){w':World}(h:Inv w0 G st a w)(hB:Below w.heap.size w w'){y:Args rs}{us:List Value}{f:Bool}{ok:Nat->Prop}
  (df:e8 w' ok rs y us) (dZ:∀g,ok g->w.heap.size<=g\/RO G f g) {d:Tmp} (hc2:Nat.blt d st.nt=true)
  (hr:k (st.put d (Jt (exF f rs y)))=some r) (hK:sg w0 k r K) :
  K (a.put (some d) (ga us)) w':=by
 have hg:w.grownBy w' none:=⟨hB.os,hB.tape,hB.output,hB.size,fun k hk _=>hB.block k hk⟩;obtain⟨hinv,hxt,hst⟩:=h.grow none hg (fun g hg=>by cases hg) [] G.hv (fun _=>none) (fun id hs=>by simp[look]at hs) (fun g id hn=>by cases hn) (fun id b hb=>by simp[look]at hb);have hro:∀g,ok g->RO (G.grow none [] G.hv (fun _=>none)) f g:=by
  intro g hg;rcases dZ g hg with hg|hg
  .refine⟨?_,.inl <| h.axV hg⟩;have:G.own g=none:=by
    cases ho:G.own g with
    |none=>rfl|some k=>have:=(h.own _ _ ho).2.1;omega
   simp[Gh.grow,this]
  .exact⟨by simp[Gh.grow,hg.1],hg.2⟩
 have h1:=CO (G:=G.grow none [] G.hv (fun _=>none)) (bx:=st.bx) (bl:=[]++st.bl) Gw (kM hro df);have h3:=hinv.put d (iD hc2) (yC (R:=fun _ _=>True) h1);exact hK _ _ _ _ h3 hr
def Vl:∀{l:List Nat} {n:Nat},YI l n=true↔n∈l
 |[],n=>by simp[YI]
 |x::l,n=>by
  simp only[YI];split
  .rename_i hb;have:=aP hb;subst this;simp
  .rename_i hb;have:n≠x:=by rintro rfl;simp at hb
   rw[Vl];simp[this]
def Vm:List AC->Nat->Nat->Option Nat
 |[],_,_=>none|.own i _::l,id,k=>if i=id then some k else Vm l id (k+1)|_::l,id,k=>Vm l id (k+1)
def ax6 {id:Nat}{len:Option Int}{l:List AC}:∀{pre:List AC} {k:Nat},(∀len,AC.own id len ∉ pre)->Vm (pre++.own id len::l) id k=some (k+pre.length)
 |[],k,_=>by simp[Vm]
 |c::pre,k,h=>by
  have h2:∀len,AC.own id len ∉ pre:=fun len hm=>h len (by simp[hm])
  have ih:=ax6 (len:=len) (l:=l) (k:=k+1) h2;have hs:Vm ((c::pre)++.own id len::l) id k=Vm (pre++.own id len::l) id (k+1):=by
   cases c with
   |own i ln =>
    have:i≠id:=by rintro rfl;exact h ln (by simp)
    simp[Vm,this]
   |_=>rfl
  rw[hs,ih];simp;omega
def cS (G:Gh)(all:List AC)(g:Nat):Option Nat:=match G.own g with
 |some (.bl id)=>Vm all id 0|_=>none
def aHc {m:Nat}(hm:m=2\/m=3){okE:Nat->Prop}(hE:∀g,RO G (m2 m) g->okE g)(h:Inv w0 G st a w)(all T:List AC):∀{t:Ty} {pre L L' L'':List AC} {seen:List Nat} {vs:List Value} {x:t.D},all=pre++(L++T)->(∀id len,AC.own id len∈pre->id∈seen)->iB st m seen (L++T)=true ->
  Fx st t L=some L''->im st t L=some (x,L')->cT (bS G w st.bx st.bl) L vs ->
  ∃c1 vs1 vs2 ac9,L=c1++L'/\c1.length=t.n/\L''=L'/\vs=vs1++vs2/\FrC w okE (cS G all) t x pre.length vs1/\cT (bS G w st.bx st.bl) L' vs2/\iB st m ac9 (L'++T)=true/\(∀id len,AC.own id len∈pre++c1->id∈ac9)
 |.int k,pre,L,L',L'',seen,vs,x,mr,Vn,dZ,gO,hi,hrel=>by
  cases L with
  |nil=>simp[im]at hi
  |cons c L =>
   cases c with
   |int l n =>
    simp only[im]at hi;cases vs with
    |nil=>exact hrel.elim
    |cons v vs =>
     simp only[Fx]at gO;cases gO;have h1:v=.int l n:=hrel.1;split at hi
     .cases hi;have h2:=acO ‹_›;refine⟨[.int l x],[v],vs,seen,rfl,rfl,rfl,rfl,by rw[h1,h2];rfl,hrel.2,dZ,?_⟩;intro id len hm;simp at hm;exact Vn id len hm
     .cases hi
   |_=>simp[im]at hi
 |.bool,pre,L,L',L'',seen,vs,x,mr,Vn,dZ,gO,hi,hrel=>by
  cases L with
  |nil=>simp[im]at hi
  |cons c L =>
   cases c with
   |bool b =>
    simp only[im]at hi;cases vs with
    |nil=>exact hrel.elim
    |cons v vs =>
     simp only[Fx]at gO;cases gO;have h1:v=.bool b:=hrel.1;cases hi;refine⟨[.bool x],[v],vs,seen,rfl,rfl,rfl,rfl,by rw[h1];rfl,hrel.2,dZ,?_⟩;intro id len hm;simp at hm;exact Vn id len hm
   |_=>simp[im]at hi
 |.str,pre,L,L',L'',seen,vs,x,mr,Vn,dZ,gO,hi,hrel=>by
  cases L with
  |nil=>simp[im]at hi
  |cons c L =>
   cases c with
   |str b =>
    simp only[im]at hi;cases vs with
    |nil=>exact hrel.elim
    |cons v vs =>
     simp only[Fx]at gO;cases gO;have h1:v=.string b:=hrel.1;cases hi;refine⟨[.str x],[v],vs,seen,rfl,rfl,rfl,rfl,by rw[h1];rfl,hrel.2,dZ,?_⟩;intro id len hm;simp at hm;exact Vn id len hm
   |_=>simp[im]at hi
 |.unit,pre,L,L',L'',seen,vs,x,mr,Vn,dZ,gO,hi,hrel=>by simp only[im]at hi;cases hi;simp only[Fx]at gO;cases gO;exact⟨[],[],vs,seen,rfl,rfl,rfl,rfl,rfl,hrel,dZ,by simpa using Vn⟩
 |.pair p q,pre,L,L',L'',seen,vs,x,mr,Vn,dZ,gO,hi,hrel=>by
  simp only[im]at hi;split at hi
  .rename_i y r1 hy;split at hi
   .rename_i z r2 hz;cases hi;simp only[Fx]at gO;split at gO
    .rename_i r1' hr1;obtain⟨c1,vs1,vs2,aRu,h1,h2,h3,h4,h5,h6,h7,h8⟩:=aHc hm hE h all T mr Vn dZ hr1 hy hrel;subst h3;obtain⟨c2,vs3,vs4,aLj,h9,Rc,h11,h12,h13,h14,h15,h16⟩:=aHc hm hE h all T (pre:=pre++c1) (by rw[mr,h1,iT,iT]) h8 h7 gO hz h6;refine⟨c1++c2,vs1++vs3,vs4,aLj,by rw[h1,h9,iT],by simp[Ty.n,h2,Rc],h11,by rw[h4,h12,iT],⟨vs1,vs3,rfl,h5,?_⟩,h14,h15,by rw[<-iT];exact h16⟩;rw[aL,h2]at h13;exact h13
    .cases gO
   .cases hi
  .cases hi
 |.sl e t,pre,L,L',L'',seen,vs,x,mr,Vn,dZ,gO,hi,hrel=>by
  cases L with
  |nil=>simp[im]at hi
  |cons c L =>
   simp only[im]at hi;split at hi
   .rename_i xs hxs;cases hi;cases vs with
    |nil=>exact hrel.elim
    |cons v vs =>
     cases c with
     |own id len =>
      simp only[Gt,iB]at dZ;split at dZ
      .rename_i b hb;have aGO:((b.f=true\/m=0)\/m=3)/\b.w=true/\(!YI seen id)=true/\len.isNone=true/\iB st m (id::seen) (L'++T)=true:=by
        have hlen:∀l:Option Int,(match l with|none=>true|some _=>false)=true->l.isNone=true:=by
         intro l hl;cases l with
         |none=>rfl|some _=>cases hl
        rcases hm with rfl|rfl
        .simp only[aI,kE]at dZ;exact⟨.inl (.inl (dZ.1.1.elim (fun h=>h.elim (fun h=>h) (fun h=>by cases h)) (fun h=>by cases h))),dZ.1.2.1.1,dZ.1.2.1.2,hlen _ dZ.1.2.2,dZ.2⟩
        .simp only[aI]at dZ;exact⟨.inr rfl,dZ.1.2.1.1,dZ.1.2.1.2,hlen _ dZ.1.2.2,dZ.2⟩
       obtain⟨hf,hw,hns,hlen,aL7⟩:=aGO;have hf:m2 m=true->b.f=true:=by
        intro h2;have:m=2:=aP h2;rcases hf with (h|h)|h
        .exact h
        .omega
        .omega
       cases len with
       |some l=>simp at hlen
       |none =>
        simp only[Fx,hb]at gO;split at gO
        .rename_i he;cases gO;have he:=aP he;simp only[dm,hb]at hxs;split at hxs
         .rename_i ht;have hxs:=fJ hxs;have hbo:=h.bl id b (fw hb);obtain⟨rows,h1,h2,h3⟩:=hbo.wr hw;have akg:=hbo.pos;obtain⟨be,bt,bxs,bf,bw⟩:=b;dsimp only at *;have hte:=Ty.beq_eq ht;subst hte;subst he;have hxs:bxs=x:=hxs;subst hxs;have aPY:∀len,AC.own id len ∉ pre:=by intro len hm;have:=Vn id len hm;rw[<-Vl]at this;rw[this]at hns;cases hns
          have aNU:Vm all id 0=some pre.length:=by rw[mr,Gt,ax6 aPY,xK]
          refine⟨[.own id none],[v],vs,id::seen,rfl,rfl,rfl,rfl,⟨v,rows,rfl,akg,?_,?_,?_⟩,hrel.2,aL7,?_⟩
          .rw[hrel.1.2.2];exact h1
          .intro g hg;rw[hrel.1.2.2]at hg;simp only[cS,h2 g hg,aNU]
          .exact mE (fun g hg=>hE g (RO.Ez hf hg)) h3
          .intro i ln hm;rcases jx.1 hm with hm|hm
           .exact ka _ (Vn i ln hm)
           .simp at hm;rw[hm.1];simp
         .cases hxs
        .cases gO
      .cases dZ
     |nil =>
      simp only[dm]at hxs;cases hxs;simp only[Fx]at gO;split at gO
      .cases gO
      .rename_i hn;cases gO;have h1:v=.slice none 0 0:=hrel.1;refine⟨[.nil],[v],vs,seen,rfl,rfl,rfl,rfl,⟨v,[],rfl,?_,?_,?_,?_⟩,hrel.2,dZ,?_⟩
       .cases hz:t.n with
        |zero=>rw[hz]at hn;simp at hn|succ n=>omega
       .rw[h1];exact⟨by simp,.inl ⟨rfl,rfl⟩⟩
       .intro g hg;rw[h1]at hg;simp[Value.ownBlock]at hg
       .intro j x hj;simp at hj
       .intro i ln hm;simp at hm;exact Vn i ln hm
     |ro f e' t' xs'=>rcases hm with rfl|rfl<;>simp[iB]at dZ
     |_=>simp[dm]at hxs
   .cases hi
def Hv {m:Nat}(hm:m=2\/m=3){okE:Nat->Prop}(hE:∀g,RO G (m2 m) g->okE g)(h:Inv w0 G st a w)(all T:List AC):∀(rs:List (Ty×Bool)) (l:List CV) (us:List Value) (r:Args rs) {pre:List AC} {seen:List Nat},cT (fv G w st.bx st.bl) l us->all=pre++(aW l++T)->(∀id len,AC.own id len∈pre->id∈seen) ->
  iB st m seen (aW l++T)=true->yw st rs l=true->BE st rs l=some r->qe w okE (cS G all) rs r pre.length us/\∃ac9,iB st m ac9 T=true/\(∀id len,AC.own id len∈pre++aW l->id∈ac9)/\(aW l).length=nOf rs
 |[],[],[],r,_,seen,_,_,hp,hk,_,_=>⟨rfl,seen,hk,by simpa [aW]using hp,rfl⟩
 |_,[],_::_,_,_,_,hr,_,_,_,_,_=>hr.elim|_,_::_,[],_,_,_,hr,_,_,_,_,_=>hr.elim|[],_::_,_::_,_,_,_,_,_,_,_,_,hi=>by simp[BE]at hi
 |_::_,[],[],_,_,_,_,_,_,_,_,hi=>by simp[BE]at hi
 |p::rs,o::l,v::us,r,pre,seen,hr,mr,Vn,dZ,gO,hi=>by
  simp only[BE]at hi;split at hi
  .rename_i x hx;split at hi
   .rename_i y hy;cases hi;simp only[yw,aI]at gO;obtain⟨aLk,aLb⟩:=gO;have hr1:Fx st p.1 o.cells=some []:=by
     split at aLk
     .assumption
     .cases aLk
    have Rr:=hr.1;have hcells:∃vs,im st p.1 o.cells=some (x,[])/\cT (bS G w st.bx st.bl) o.cells vs/\v=(match p.2 with|true=>.agg vs.toArray|false=>vs.headD undef):=by
     unfold imV at hx;split at hx
     .rename_i cs hp;split at hx
      .rename_i z hz;cases hx;obtain⟨vs,hv,hrel⟩:=Rr;refine⟨vs.toList,hz,hrel,by rw[hp,hv,yr]⟩
      .cases hx
     .rename_i c hp;split at hx
      .rename_i z hz;cases hx;exact⟨[v],hz,⟨Rr,trivial⟩,by rw[hp];rfl⟩
      .cases hx
     .cases hx
    obtain⟨vs,him,hrel,ada⟩:=hcells;have hL:aW (o::l)=o.cells++aW l:=rfl;rw[hL,iT]at mr dZ;obtain⟨c1,vs1,vs2,aLj,h1,h2,h3,h4,h5,h6,h7,h8⟩:=aHc hm hE h all (aW l++T) mr Vn dZ hr1 him hrel;rw[iz]at h1;cases vs2 with
    |cons _ _=>exact h6.elim
    |nil =>
     rw[iz]at h4;subst h4;obtain⟨h9,ac9,Rc,h11,h12⟩:=Hv hm hE h all T rs l us y (pre:=pre++o.cells) hr.2 (by rw[mr,iT]) (by rw[h1];exact h8) h7 aLb hy;rw[aL,h1,h2]at h9;refine⟨⟨v,us,rfl,⟨vs,h5,ada⟩,h9⟩,ac9,Rc,?_,?_⟩
     .rw[hL,<-iT];exact h11
     .rw[hL,aL,h12,h1,h2];rfl
   .cases hi
  .cases hi
end
end Go.Am
