/- Lemmas for the claim. No condition. -/
import Derived.Test.YtfapcfpkbahneaaGreatDoorQtAmOps7
set_option linter.all false
namespace Go.Am
open Go.RowKit
def acH (w:World)(ok:Nat->Prop)(a:Ty×Bool)(x:a.1.D)(v:Value):Prop :=
 ∃cs,Rd w ok a.1 x cs/\v=(match a.2 with|true=>.agg cs.toArray|false=>cs.headD undef)
def eQ (w:World)(ok:Nat->Prop):(ps:List (Ty×Bool))->Args ps->List Value->Prop
 |[],_,vs=>vs=[]
 |a::l,x,vs=>∃v vs',vs=v::vs'/\acH w ok a x.1 v/\eQ w ok l x.2 vs'
def FrC (w:World)(okE:Nat->Prop)(own:Nat->Option Nat):(t:Ty)->t.D->Nat->List Value->Prop
 |.int k,x,_,cs=>cs=[.int k x]
 |.bool,x,_,cs=>cs=[.bool x]
 |.str,x,_,cs=>cs=[.string x]
 |.unit,_,_,cs=>cs=[]
 |.pair a b,x,j,cs=>∃c1 c2,cs=c1++c2/\FrC w okE own a x.1 j c1/\FrC w okE own b x.2 (j+a.n) c2
 |.sl e t,xs,j,cs=>∃v rows,cs=[v]/\0<t.n/\w.ownsRow 0 e t.n v xs.length rows/\(∀g,v.ownBlock=some g->own g=some j)/\fL w okE t rows xs
def aBZ (w:World)(okE:Nat->Prop)(own:Nat->Option Nat)(a:Ty×Bool)(x:a.1.D)(j:Nat)(v:Value):Prop :=
 ∃cs,FrC w okE own a.1 x j cs/\v=(match a.2 with|true=>.agg cs.toArray|false=>cs.headD undef)
def p7 (w:World)(okE:Nat->Prop)(own:Nat->Option Nat):(rs:List (Ty×Bool))->Args rs->Nat->List Value->Prop
 |[],_,_,vs=>vs=[]
 |a::l,x,j,vs=>∃v vs',vs=v::vs'/\aBZ w okE own a x.1 j v/\p7 w okE own l x.2 (j+a.1.n) vs'
def fS:List Value->Value
 |[v]=>v
 |vs=>.tuple vs.toArray
def YS (ok:Nat->Prop)(w w':World)(con:Con)(r:Args con.rs)(vs:List Value):Prop :=
 match con.m with
 |0=>eQ w' (fun g=>w.heap.size<=g\/ok g) con.rs r vs
 |1=>eQ w' (fun g=>w.heap.size<=g) con.rs r vs
 |_=>∃own:Nat->Option Nat,(∀g j,own g=some j->w.heap.size<=g)/\p7 w' (fun g=>w.heap.size<=g/\own g=none) own con.rs r 0 vs
def Yf (P : Program) (f : FuncId) : Prop := ∃ fn, P.funcs[f]? = some fn ∧ (fn.name == "runtime.NumGoroutine") = false ∧ fn.body.isNone = false
def ah6 (P:Program)(w0:fJ)(f:FuncId)(con:Con):Prop :=
 Yf P f /\
 ∀(x:Args con.ps) (r:Args con.rs),con.g x=some r->∀(w:World),fB w0.fr w0.w w->∀(ok:Nat->Prop) (vs:List Value),eQ w ok con.ps x vs ->
  Calls P f vs.toArray w fun e w'=>∃us,e=.returned (fS us)/\YS ok w w' con r us/\Below w.heap.size w w'
structure Tab where
 p:World->Prop
 bl:Nat->Prop
 lt:∀w,p w->∀b,bl b->b<w.heap.size
 mono:∀w w',p w->(∀b,bl b->w'.heap[b]?=w.heap[b]?)->p w'
def asl (P:Program)(T:Tab)(f:FuncId)(con:Con):Prop :=
 Yf P f /\
 ∀(x:Args con.ps) (r:Args con.rs),con.g x=some r->∀(w:World),T.p w->∀(ok:Nat->Prop) (vs:List Value),eQ w ok con.ps x vs ->
  Calls P f vs.toArray w fun e w'=>∃us,e=.returned (fS us)/\YS ok w w' con r us/\Below w.heap.size w w'
theorem Tab.keeps {T:Tab}{w0:fJ}(hT:T.p w0.w)(hf:∀b,w0.fr b->¬T.bl b){w:World}(hK:fB w0.fr w0.w w):T.p w :=
 T.mono w0.w w hT fun b hb=>hK.block b (T.lt _ hT b hb) fun h=>hf b h hb
def nOf:List (Ty×Bool)->Nat
 |[]=>0
 |a::l=>a.1.n+nOf l
def aLL (w:World)(ok nw:Nat->Prop)(own:Nat->Option Nat)(g0:Nat)(pm:PM)(a:Ty×Bool)(x:a.1.D)(v:Value):Prop:=match pm with
 |.rd=>acH w ok a x v
 |.own f=>aBZ w (fun g=>own g=none/\(nw g\/(f=false/\ok g))) own a x 0 v
 |.box=>v=.pointer (some ⟨g0,0,none⟩)/\(own g0).isSome=true/\∃cs e,w.heap[g0]?=some (.cells cs e (0,0))/\Rd w ok a.1 x cs.toList
 |.cur=>v=.pointer (some ⟨g0,0,none⟩)/\(own g0).isSome=true/\∃cs e,w.heap[g0]?=some (.cells cs e (0,0))/\Rd w (fun g=>own g=none/\nw g) a.1 x cs.toList
def UJ (w:World)(ok nw:Nat->Prop)(own:Nat->Option Nat)(g0:Nat)(pm:PM):Nat->(ps:List (Ty×Bool))->Args ps->List Value->Value->Prop
 |0,a::l,x,vs,u=>∃vs',vs=u::vs'/\aLL w ok nw own g0 pm a x.1 u/\eQ w ok l x.2 vs'
 |i+1,a::l,x,vs,u=>∃v vs',vs=v::vs'/\acH w ok a x.1 v/\UJ w ok nw own g0 pm i l x.2 vs' u
 |_,[],_,_,_=>False
structure Handed (w:World) (B:Nat->Prop) (ok nw:Nat->Prop) (own:Nat->Option Nat):Prop where
 mq:∀g,w.heap.size<=g->nw g
 bH:∀g j,own g=some j->nw g/\g<w.heap.size/\B g
 dO:∀g,ok g->own g=none
def amw (con:OE)(w w':World)(ok nw:Nat->Prop)(own:Nat->Option Nat)(g0:Nat)(u:Value)(r:Args con.rs×Args con.qs)(us:List Value):Prop :=
 ∃b8:Nat->Option Nat,(∀g j,b8 g=some j->w.heap.size<=g\/(own g).isSome=true) /\
  (match con.pm with
   |.rd=>True
   |.own _=>p7 w' (fun g=>b8 g=none/\(nw g\/(m2 con.m=false/\ok g))) b8 con.qs r.2 (nOf con.rs) (match con.qs with|[]=>[]|_=>[u])
   |.box=>(∃j,b8 g0=some j/\nOf con.rs<=j)/\∃cs e,w'.heap[g0]?=some (.cells cs e (0,0))/\eQ w' (fun g=>b8 g=none/\(nw g\/ok g)) con.qs r.2 [.agg cs]
   |.cur=>(∃j,b8 g0=some j/\nOf con.rs<=j)/\∃cs e,w'.heap[g0]?=some (.cells cs e (0,0))/\eQ w' (fun g=>b8 g=none/\nw g) con.qs r.2 [.agg cs]) /\
  (match con.m with
   |0=>eQ w' (fun g=>b8 g=none/\(nw g\/ok g)) con.rs r.1 us
   |1=>eQ w' (fun g=>b8 g=none/\nw g) con.rs r.1 us
   |4=>∃b cs e,us=[.pointer (some ⟨b,0,none⟩)]/\w.heap.size<=b/\(b8 b).isSome=true/\w'.heap[b]?=some (.cells cs e (0,0))/\eQ w' (fun g=>b8 g=none/\nw g) con.rs r.1 [.agg cs]
   |5=>∃b cs e,us=[.pointer (some ⟨b,0,none⟩)]/\w.heap.size<=b/\(b8 b).isSome=true/\w'.heap[b]?=some (.cells cs e (0,0))/\eQ w' (fun g=>b8 g=none/\(nw g\/ok g)) con.rs r.1 [.agg cs]
   |_=>p7 w' (fun g=>b8 g=none/\(nw g\/(m2 con.m=false/\ok g))) b8 con.rs r.1 0 us)
def aDx (con:OE):Prop:=con.qs=[]\/∃p,con.qs=[p]/\nX con.ps con.i=some p
def aFw (P:Program)(f:FuncId)(i:Idx)(W:World):Prop :=
 ∀(xs:List i.a.1.D) (y:i.q.D) (s:Value) (B:Nat) (cs:Array Value) (e e':TypeId),Rd W (fun _=>True) (.sl e' i.a.1) xs [s]->W.heap[B]?=some (.cells cs e (0,0))->Rd W (fun _=>True) i.q y cs.toList ->
  Calls P f #[s,.func (.func i.g) #[] #[.pointer (some ⟨B,0,none⟩)]] W fun e w'=>e=.returned (.int .i64 (qO (fun x=>i.p x y) xs 0))/\Below W.heap.size W w'
def asm (P:Program)(f:FuncId)(e:TypeId)(u:Ty)(W:World):Prop :=
 ∀(s v:Value) (n m i:Nat) (cs ds:List Value),W.ownsRow 0 e u.n s n cs->W.ownsRow 0 e u.n v m ds->(∀g,s.ownBlock=some g->v.ownBlock≠some g)->1<=m->i<=n->n+m<=1073741824->(∀u∈cs,u.oneCell'=true)->(∀u∈ds,u.oneCell'=true) ->
  Calls P f #[s,.int .i64 i,v] W fun e' w'=>∃v',e'=.returned v'/\w'.ownsRow 0 e u.n v' (n+m) (cs.take (i*u.n)++ds++cs.drop (i*u.n))/\W.grownBy w' s.ownBlock/\(v'.ownBlock=s.ownBlock\/∀g,v'.ownBlock=some g->W.heap.size<=g)
def aB0 (P:Program)(f:FuncId)(e:TypeId)(u:Ty)(W:World):Prop :=
 ∀(s:Value) (n i j:Nat) (cs:List Value),W.ownsRow 0 e u.n s n cs->i<=j->j<=n->(∀u∈cs,u.oneCell'=true) ->
  Calls P f #[s,.int .i64 i,.int .i64 j] W fun e' w'=>∃v',e'=.returned v'/\w'.ownsRow 0 e u.n v' (i+(n-j)) (cs.take (i*u.n)++cs.drop (j*u.n))/\W.grownBy w' s.ownBlock/\(v'.ownBlock=s.ownBlock\/∀g,v'.ownBlock=some g->W.heap.size<=g)
def aaP (P:Program)(w0:fJ)(f:FuncId)(con:OE):Prop :=
 Yf P f/\aDx con /\
 ∀(x:Args con.ps) (r:Args con.rs×Args con.qs),con.g x=some r->∀(w:World),fB w0.fr w0.w w->∀(ok nw:Nat->Prop) (own:Nat->Option Nat) (g0:Nat) (vs:List Value) (u:Value),
  Handed w (fun g=>w0.w.heap.size<=g\/w0.fr g) ok nw own->UJ w ok nw own g0 con.pm con.i con.ps x vs u ->
  Calls P f vs.toArray w fun e w'=>∃us,e=.returned (fS us)/\amw con w w' ok nw own g0 u r us/\fB (fun g=>(own g).isSome=true) w w'
def amx (P:Program)(T:Tab)(f:FuncId)(con:OE):Prop :=
 Yf P f/\aDx con /\
 ∀(x:Args con.ps) (r:Args con.rs×Args con.qs),con.g x=some r->∀(w:World),T.p w->∀(ok nw:Nat->Prop) (own:Nat->Option Nat) (g0:Nat) (vs:List Value) (u:Value),
  Handed w (fun g=>¬T.bl g) ok nw own->UJ w ok nw own g0 con.pm con.i con.ps x vs u ->
  Calls P f vs.toArray w fun e w'=>∃us,e=.returned (fS us)/\amw con w w' ok nw own g0 u r us/\fB (fun g=>(own g).isSome=true) w w'
def aJ3 (con:Sel):OE:=⟨con.ps,con.i,.own true,[con.a,con.b],2,[],fun _=>none⟩
def aLM (con:Sel):OE:=⟨con.ps,con.i,.own true,[con.b],2,[con.q],fun _=>none⟩
def aHZ (con:Sel)(w w':World)(ok nw:Nat->Prop)(own:Nat->Option Nat)(g0:Nat)(u:Value)(r:con.a.1.D×con.b.1.D×con.q.1.D)(us:List Value):Prop :=
 ∃va vb,us=[va,vb]/\(match ama con.b.1 r.2.1 with
  |true=>amw (aJ3 con) w w' ok nw own g0 u ((r.1,(r.2.1,())),()) [va,vb]
  |false=>amw (aLM con) w w' ok nw own g0 u ((r.2.1,()),(r.2.2,())) [vb]/\(con.a.2=true->∃vs,va=.agg vs/\vs.toList.length=con.a.1.n/\∀c∈vs.toList,c.oneCell'=true))
def at7 (P:Program)(w0:fJ)(f:FuncId)(con:Sel):Prop :=
 Yf P f/\nX con.ps con.i=some con.q /\
 ∀(x:Args con.ps) (r:con.a.1.D×con.b.1.D×con.q.1.D),con.g x=some r->∀(w:World),fB w0.fr w0.w w->∀(ok nw:Nat->Prop) (own:Nat->Option Nat) (g0:Nat) (vs:List Value) (u:Value),
  Handed w (fun g=>w0.w.heap.size<=g\/w0.fr g) ok nw own->UJ w ok nw own g0 (.own true) con.i con.ps x vs u ->
  Calls P f vs.toArray w fun e w'=>∃us,e=.returned (fS us)/\aHZ con w w' ok nw own g0 u r us/\fB (fun g=>(own g).isSome=true) w w'
def amy (P:Program)(T:Tab)(f:FuncId)(con:Sel):Prop :=
 Yf P f/\nX con.ps con.i=some con.q /\
 ∀(x:Args con.ps) (r:con.a.1.D×con.b.1.D×con.q.1.D),con.g x=some r->∀(w:World),T.p w->∀(ok nw:Nat->Prop) (own:Nat->Option Nat) (g0:Nat) (vs:List Value) (u:Value),
  Handed w (fun g=>¬T.bl g) ok nw own->UJ w ok nw own g0 (.own true) con.i con.ps x vs u ->
  Calls P f vs.toArray w fun e w'=>∃us,e=.returned (fS us)/\aHZ con w w' ok nw own g0 u r us/\fB (fun g=>(own g).isSome=true) w w'
def tJ (P:Program)(T:Tab)(f:FuncId):Any->Prop
 |.one c=>asl P T f c
 |.two c=>amx P T f c
 |.sel c=>amy P T f c
 |.idx i=>Yf P f/\∀W,T.p W->aFw P f i W
 |.ins e u=>Yf P f/\∀W,T.p W->asm P f e u W
 |.del e u=>Yf P f/\∀W,T.p W->aB0 P f e u W
def Se (P:Program)(w0:fJ)(f:FuncId):Any->Prop
 |.one c=>ah6 P w0 f c
 |.two c=>aaP P w0 f c
 |.sel c=>at7 P w0 f c
 |.idx i=>Yf P f/\∀W,fB w0.fr w0.w W->aFw P f i W
 |.ins e u=>Yf P f/\∀W,fB w0.fr w0.w W->asm P f e u W
 |.del e u=>Yf P f/\∀W,fB w0.fr w0.w W->aB0 P f e u W
theorem asl.at {P:Program}{T:Tab}{f:FuncId}{con:Con}(h:asl P T f con){w0:fJ}(hT:T.p w0.w)(hf:∀b,w0.fr b->¬T.bl b):ah6 P w0 f con :=
 ⟨h.1,fun x r hg w hB=>h.2 x r hg w (T.keeps hT hf hB)⟩
theorem amx.at {P:Program}{T:Tab}{f:FuncId}{con:OE}(h:amx P T f con){w0:fJ}(hT:T.p w0.w)(hf:∀b,w0.fr b->¬T.bl b):aaP P w0 f con :=
 ⟨h.1,h.2.1,fun x r hg w hB ok nw own g0 vs u hh hin=>h.2.2 x r hg w (T.keeps hT hf hB) ok nw own g0 vs u ⟨hh.mq,fun g j hj=>⟨(hh.bH g j hj).1,(hh.bH g j hj).2.1,fun hb=>by
  rcases(hh.bH g j hj).2.2 with h1|h1
  ·have:=T.lt _ hT g hb;omega
  ·exact hf g h1 hb⟩,hh.dO⟩ hin⟩
theorem amy.at {P:Program}{T:Tab}{f:FuncId}{con:Sel}(h:amy P T f con){w0:fJ}(hT:T.p w0.w)(hf:∀b,w0.fr b->¬T.bl b):at7 P w0 f con :=
 ⟨h.1,h.2.1,fun x r hg w hB ok nw own g0 vs u hh hin=>h.2.2 x r hg w (T.keeps hT hf hB) ok nw own g0 vs u ⟨hh.mq,fun g j hj=>⟨(hh.bH g j hj).1,(hh.bH g j hj).2.1,fun hb=>by
  rcases(hh.bH g j hj).2.2 with h1|h1
  ·have:=T.lt _ hT g hb;omega
  ·exact hf g h1 hb⟩,hh.dO⟩ hin⟩
theorem tJ.at {P:Program}{T:Tab}{f:FuncId}{con:Any}(h:tJ P T f con){w0:fJ}(hT:T.p w0.w)(hf:∀b,w0.fr b->¬T.bl b):Se P w0 f con:=by
 cases con with
 |one c=>exact asl.at h hT hf
 |two c=>exact amx.at h hT hf
 |sel c=>exact amy.at h hT hf
 |idx i=>exact⟨h.1,fun W hK=>h.2 W (T.keeps hT hf hK)⟩
 |ins e u=>exact⟨h.1,fun W hK=>h.2 W (T.keeps hT hf hK)⟩
 |del e u=>exact⟨h.1,fun W hK=>h.2 W (T.keeps hT hf hK)⟩
section
variable {P:Program} {w0:fJ} {w:World} {G:Gh} {st:St} {a:Act} {α:Type} {k:St->Option α} {r:α} {K:Act->World->Prop} {Q:Exit->Act->World->Prop} {o:Oper}
theorem azS (h:Inv w0 G st a w){ok:Nat->Prop}{p:Ty×Bool}{x:CV}{u:Value}{y:p.1.D}(hr:fh G w st.bx st.bl x u)
  (hc:∀t c v xs,c∈x.cells->bN G w st.bx st.bl c v->de st t c=some xs->∀e,Rd w ok (.sl e t) xs [v]) (hi:imV st p x=some y):acH w ok p y u:=by
 unfold imV at hi;split at hi
 ·rename_i l hb;split at hi
  ·rename_i z hz;cases hi;obtain⟨cs,hv,hrel⟩:=hr;obtain⟨vs1,vs2,he,kt,hr2,_⟩:=OI (ok:=ok) hc hrel hz;cases vs2 with
   |cons _ _=>exact hr2.elim
   |nil =>
    rw[ie]at he;refine⟨vs1,kt,?_⟩;rw[hb,hv,<-he]
  ·cases hi
 ·rename_i c hb;split at hi
  ·rename_i z hz;cases hi;obtain⟨vs1,vs2,he,kt,hr2,_⟩:=OI (ok:=ok) (l:=[c]) (vs:=[u]) hc ⟨hr,trivial⟩ hz;cases vs2 with
   |cons _ _=>exact hr2.elim
   |nil =>
    rw[ie]at he;refine⟨vs1,kt,?_⟩;rw[hb,<-he];rfl
  ·cases hi
 ·cases hi
theorem aua (h:Inv w0 G st a w){ok:Nat->Prop}{p:Ty×Bool}{x:Operand}{y:p.1.D}
  (hc:∀t c v xs,c∈(st.eP x).cells->bN G w st.bx st.bl c v->de st t c=some xs->∀e,Rd w ok (.sl e t) xs [v]) (hi:im1 st p x=some y):acH w ok p y (a.eval x) :=
 azS h (h.eP x) hc hi
theorem aB1 (h:Inv w0 G st a w){ok:Nat->Prop}:∀(ps:List (Ty×Bool)) (cs:List CV) (vs:List Value) (x:Args ps),cT (fh G w st.bx st.bl) cs vs ->
  (∀t c v xs,c∈aU cs->bN G w st.bx st.bl c v->de st t c=some xs->∀e,Rd w ok (.sl e t) xs [v])->Bn st ps cs=some x->eQ w ok ps x vs
 |[],[],[],x,_,_,hi=>rfl
 |[],[],_::_,_,h,_,_=>h.elim
 |_,_::_,[],_,h,_,_=>h.elim
 |[],_::_,_::_,x,_,_,hi=>by simp[Bn]at hi
 |_::_,[],_,x,_,_,hi=>by simp[Bn]at hi
 |p::ps,y::os,v::vs,x,hr,hc,hi=>by
  simp only[Bn]at hi;split at hi
  ·rename_i z hz;split at hi
   ·rename_i zs hzs;cases hi;exact⟨v,vs,rfl,azS h hr.1 (fun t c v xs hm=>hc t c v xs (by simp[aU,hm])) hz,aB1 h ps os vs zs hr.2 (fun t c v xs hm=>hc t c v xs (by simp[aU,hm])) hzs⟩
   ·cases hi
  ·cases hi
theorem IP (h:Inv w0 G st a w){ok:Nat->Prop}:∀(ps:List (Ty×Bool)) (os:List Operand) (x:Args ps),
  (∀t c v xs,c∈kP st os->bN G w st.bx st.bl c v->de st t c=some xs->∀e,Rd w ok (.sl e t) xs [v])->NW st ps os=some x->eQ w ok ps x (os.map a.eval)
 |[],[],x,_,hi=>rfl
 |[],_::_,x,_,hi=>by simp[NW]at hi
 |_::_,[],x,_,hi=>by simp[NW]at hi
 |p::ps,y::os,x,hc,hi=>by
  simp only[NW]at hi;split at hi
  ·rename_i z hz;split at hi
   ·rename_i zs hzs;cases hi;exact⟨a.eval y,os.map a.eval,rfl,aua h (fun t c v xs hm=>hc t c v xs (by simp[kP,hm])) hz,IP h ps os zs (fun t c v xs hm=>hc t c v xs (by simp[kP,hm])) hzs⟩
   ·cases hi
  ·cases hi
theorem UK (h:Inv w0 G st a w):∀t c v xs,bN G w st.bx st.bl c v->de st t c=some xs->∀e,Rd w (fun _=>True) (.sl e t) xs [v] :=
 fun t c v xs hr hd=>kD h hr hd (fun _ _ _ _ _=>⟨fun _ _=>trivial,fun _ _ _=>trivial⟩) (fun _ _ _ _ _ _ _=>trivial)
structure aLN (w:World) (okE:Nat->Prop) (f:Bool) (own:Nat->Option Nat) (id:Nat) (z:Nat×gp×Value):Prop where
 wr:z.2.1.w=true
 nf:z.2.1.f=(f || flat z.2.1.t)
 pos:0<z.2.1.t.n
 row:∃rows,w.ownsRow 0 z.2.1.e z.2.1.t.n z.2.2 z.2.1.xs.length rows/\fL w okE z.2.1.t rows z.2.1.xs
 rS:∀g,z.2.2.ownBlock=some g->own g=some (z.1-id*64)
def tU (L:List (Nat×gp×Value)):AC->Value->Prop
 |.int k n,v=>v=.int k n
 |.bool b,v=>v=.bool b
 |.str s,v=>v=.string s
 |.own i none,v=>∃b,(i,b,v)∈L
 |_,_=>False
theorem tU.Ea {L L':List (Nat×gp×Value)}(h:∀z∈L,z∈L'):∀{c:AC} {v:Value},tU L c v->tU L' c v
 |.int _ _,_,hc=>hc
 |.bool _,_,hc=>hc
 |.str _,_,hc=>hc
 |.own i none,v,⟨b,hb⟩=>⟨b,h _ hb⟩
 |.own i (some l),v,hc=>hc.elim
 |.none,_,hc=>hc.elim
 |.nil,_,hc=>hc.elim
 |.ro _ _ _ _,_,hc=>hc.elim
 |.ptr _ _,_,hc=>hc.elim
 |.Ln _ _ _,_,hc=>hc.elim
 |.T5 _ _ _ _,_,hc=>hc.elim
 |.fnp _ _,_,hc=>hc.elim
 |.any,_,hc=>hc.elim
structure Fr (w:World) (okE:Nat->Prop) (f:Bool) (own:Nat->Option Nat) (id lo hi:Nat) (q:List (Nat×Option gp)) (L:List (Nat×gp×Value)):Prop where
 q:q=L.map fun z=>(z.1,some z.2.1)
 rows:∀z∈L,id*64+lo<=z.1/\z.1<id*64+hi/\aLN w okE f own id z
 uniq:∀z∈L,∀z'∈L,z.1=z'.1->z=z'
theorem Fr.nil {w:World}{okE:Nat->Prop}{f:Bool}{own:Nat->Option Nat}{id lo hi:Nat}:Fr w okE f own id lo hi [] []:=⟨rfl,fun z hz=>by simp at hz,fun z hz=>by simp at hz⟩
theorem Fr.app {w:World}{okE:Nat->Prop}{f:Bool}{own:Nat->Option Nat}{id lo mid hi:Nat}{q q':List (Nat×Option gp)}{L L':List (Nat×gp×Value)}(h:Fr w okE f own id lo mid q L)(h':Fr w okE f own id mid hi q' L')(h1:lo<=mid)(h2:mid<=hi) :
  Fr w okE f own id lo hi (q++q') (L++L'):=by
 refine⟨by rw[h.q,h'.q,afm],fun z hz=>?_,fun z hz z' Lm he=>?_⟩
 ·rcases lX.1 hz with hz|hz
  ·obtain⟨h3,h4,h5⟩:=h.rows z hz;exact⟨h3,by omega,h5⟩
  ·obtain⟨h3,h4,h5⟩:=h'.rows z hz;exact⟨by omega,h4,h5⟩
 ·rcases lX.1 hz with hz|hz<;>rcases lX.1 Lm with Lm|Lm
  ·exact h.uniq z hz z' Lm he
  ·have:=(h.rows z hz).2.1;have:=(h'.rows z' Lm).1;omega
  ·have:=(h'.rows z hz).1;have:=(h.rows z' Lm).2.1;omega
  ·exact h'.uniq z hz z' Lm he
theorem azT {w:World}{okE:Nat->Prop}{f:Bool}{own:Nat->Option Nat}{id:Nat}:∀{t:Ty} {x:t.D} {j:Nat} {cs:List Value},FrC w okE own t x j cs ->
  ∃L,Fr w okE f own id j (j+t.n) (exR id f t x j).2 L/\cT (tU L) (exR id f t x j).1 cs
 |.int k,x,j,cs,h=>⟨[],.nil,by rw[show cs=_ from h];exact⟨rfl,trivial⟩⟩
 |.bool,x,j,cs,h=>⟨[],.nil,by rw[show cs=_ from h];exact⟨rfl,trivial⟩⟩
 |.str,x,j,cs,h=>⟨[],.nil,by rw[show cs=_ from h];exact⟨rfl,trivial⟩⟩
 |.unit,x,j,cs,h=>⟨[],.nil,by rw[show cs=_ from h];trivial⟩
 |.pair a b,x,j,cs,h=>by obtain⟨c1,c2,rfl,h1,h2⟩:=h;obtain⟨L1,h3,h4⟩:=azT (id:=id) h1;obtain⟨L2,h5,h6⟩:=azT (id:=id) h2;refine⟨L1++L2,?_,cT.app (h4.imp fun _ _=>tU.Ea fun z hz=>by simp[hz]) (h6.imp fun _ _=>tU.Ea fun z hz=>by simp[hz])⟩;have:=h3.app h5 (by omega) (by omega);rw[Up]at this;exact this
 |.sl e t,xs,j,cs,h=>by
  obtain⟨v,rows,rfl,hp,ho,hb,he⟩:=h;refine⟨[(id*64+j,⟨e,t,xs,f || flat t,true⟩,v)],⟨rfl,fun z hz=>?_,fun z hz z' Lm _=>?_⟩,⟨⟨e,t,xs,f || flat t,true⟩,by simp⟩,trivial⟩
  ·simp at hz;subst hz;refine⟨cp _,by simp[Ty.n],rfl,rfl,hp,⟨rows,ho,he⟩,fun g hg=>?_⟩;rw[hb g hg]
   congr 1
   omega
  ·simp at hz Lm;rw[hz,Lm]
def awO (L:List (Nat×gp×Value)):CV->Value->Prop
 |.c x,v=>tU L x v
 |.agg l,v=>∃cs,v=.agg cs/\cT (tU L) l cs.toList
theorem awO.Ea {L L':List (Nat×gp×Value)}(h:∀z∈L,z∈L'){c:CV}{v:Value}(hc:awO L c v):awO L' c v:=by
 cases c with
 |c x=>exact tU.Ea h hc
 |agg l =>
  obtain⟨cs,he,hr⟩:=hc;exact⟨cs,he,hr.imp fun _ _=>tU.Ea h⟩
theorem aFx {w:World}{okE:Nat->Prop}{f:Bool}{own:Nat->Option Nat}{id:Nat}{p:Ty×Bool}{x:p.1.D}{j:Nat}{v:Value}(h:aBZ w okE own p x j v)(hs:p.2=true\/p.1.n=1) :
  ∃L,Fr w okE f own id j (j+p.1.n) (ex1 id f p x j).2 L/\awO L (ex1 id f p x j).1 v:=by
 obtain⟨cs,h1,h2⟩:=h;obtain⟨L,h3,h4⟩:=azT (id:=id) h1;refine⟨L,h3,?_⟩;obtain⟨t,ag⟩:=p;cases ag with
 |true=>exact⟨cs.toArray,h2,h4⟩
 |false =>
  have hn:t.n=1:=by simpa using hs
  have:cs.length=1:=by
   have hl:∀{t:Ty} {x:t.D} {j:Nat} {cs:List Value},FrC w okE own t x j cs->cs.length=t.n:=by
    intro t
    induction t with
    |int k=>intro x j cs h;rw[show cs=_ from h];rfl
    |bool=>intro x j cs h;rw[show cs=_ from h];rfl
    |str=>intro x j cs h;rw[show cs=_ from h];rfl
    |unit=>intro x j cs h;rw[show cs=_ from h];rfl
    |pair a b iha ihb =>
     intro x j cs h;obtain⟨c1,c2,rfl,h1,h2⟩:=h;simp[Ty.n,iha h1,ihb h2]
    |sl e t _ =>
     intro x j cs h;obtain⟨v,rows,rfl,_⟩:=h;rfl
   rw[hl h1];exact hn
  obtain⟨u,rfl⟩:∃u,cs=[u]:=by
   cases cs with
   |nil=>simp at this
   |cons u cs =>
    cases cs with
    |nil=>exact⟨u,rfl⟩
    |cons _ _=>simp at this
  show tU L (match (exR id f t x j).1 with|[c]=>c|_=>.none) v;rw[show v=u from h2]
  revert h4
  generalize (exR id f t x j).1=l;intro h4;cases l with
  |nil=>exact h4.elim
  |cons c l =>
   cases l with
   |nil=>exact h4.1
   |cons _ _=>exact h4.2.elim
theorem acI {w:World}{okE:Nat->Prop}{f:Bool}{own:Nat->Option Nat}{id:Nat}:∀{rs:List (Ty×Bool)} {x:Args rs} {j:Nat} {vs:List Value},fg rs=true->p7 w okE own rs x j vs ->
  ∃L,Fr w okE f own id j (j+nOf rs) (l7 id f rs x j).2 L/\cT (awO L) (l7 id f rs x j).1 vs
 |[],x,j,vs,_,h=>⟨[],.nil,by rw[show vs=[] from h];trivial⟩
 |a::l,x,j,vs,hf,h=>by obtain⟨v,vs',rfl,h1,h2⟩:=h;simp only[fg,aJ,mn]at hf;obtain⟨L1,h3,h4⟩:=aFx (id:=id) (f:=f) h1 (hf.1.imp_right aP);obtain⟨L2,h5,h6⟩:=acI (id:=id) (f:=f) hf.2 h2;have h7:=h3.app h5 (by omega) (by omega);rw[Up]at h7;exact⟨L1++L2,h7,h4.Ea fun z hz=>by simp[hz],h6.imp fun _ _=>awO.Ea fun z hz=>by simp[hz]⟩
theorem acJ {L:List (Nat×gp×Value)}{i:Nat}:∀{b:gp},look (L.map fun z=>(z.1,some z.2.1)) i=some (some b)->∃v,(i,b,v)∈L:=by
 induction L with
 |nil=>intro b h;simp[look]at h
 |cons z L ih =>
  intro b h;rw[uh,aw]at h;by_cases hi:z.1=i
  ·simp only[hi,ig]at h;cases h;refine⟨z.2.2,?_⟩;rw[<-hi];simp
  ·simp only[hi,gT]at h;obtain⟨v,hv⟩:=ih h;exact⟨v,by simp[hv]⟩
theorem kS {L:List (Nat×gp×Value)}{z:Nat×gp×Value}(h:z∈L):(look (L.map fun z=>(z.1,some z.2.1)) z.1).isSome=true:=by
 induction L with
 |nil=>simp at h
 |cons y L ih =>
  rw[uh,aw];by_cases hi:y.1=z.1
  ·simp[hi]
  ·simp only[hi,gT];rcases gS.1 h with rfl|h
   ·exact absurd rfl hi
   ·exact ih h
def hvL (L:List (Nat×gp×Value))(i:Nat):Value:=match L.find? (·.1==i) with|some z=>z.2.2|none=>undef
theorem Xu {L:List (Nat×gp×Value)}(hu:∀z∈L,∀z'∈L,z.1=z'.1->z=z'){z:Nat×gp×Value}(h:z∈L):hvL L z.1=z.2.2:=by
 unfold hvL;cases hf:L.find? (·.1==z.1) with
 |none =>
  have:=al4.1 hf z h;simp at this
 |some y =>
  have h1:=ahU hf;have h2:=YL hf;have:=hu y h2 z h (by simpa using h1);rw[this]
theorem Cs:∀{q:List (Nat×Option gp)},gE q st=true->∀id,(look q id).isSome=true->look st.bl id=none
 |[],_,id,h=>by simp[look]at h
 |(i,b)::q,hf,id,h=>by
  simp only[gE,aJ]at hf;rw[aw]at h;by_cases hi:i=id
  ·subst hi;cases hl:look st.bl i with
   |none=>rfl
   |some x=>rw[hl]at hf;simp at hf
  ·simp only[hi,gT]at h;exact Cs hf.2 id h
theorem ya {R:CV->Value->Prop}{G:Gh}{w:World}{bx:List (Nat×List AC)}{bl:List (Nat×Option gp)}{cs:List CV}{vs:List Value}(h:cT (fh G w bx bl) cs vs) :
  j2 G w bx bl (I8 cs) (fS vs):=by
 cases cs with
 |nil =>
  cases vs with
  |nil=>exact⟨_,rfl,trivial⟩
  |cons _ _=>exact h.elim
 |cons c cs =>
  cases vs with
  |nil=>exact h.elim
  |cons v vs =>
   cases cs with
   |nil =>
    cases vs with
    |nil=>exact h.1
    |cons _ _=>exact h.2.elim
   |cons c' cs =>
    cases vs with
    |nil=>exact h.2.elim
    |cons v' vs=>exact⟨_,rfl,h⟩
theorem Ct {f:Bool}{G:Gh}{w:World}{bx:List (Nat×List AC)}{bl:List (Nat×Option gp)}:∀{rs:List (Ty×Bool)} {x:Args rs} {vs:List Value},fg rs=true->eQ w (RO G f) rs x vs ->
  cT (fh G w bx bl) (exF f rs x) vs
 |[],x,vs,_,h=>by rw[show vs=[] from h];trivial
 |a::l,x,vs,hf,h=>by
  obtain⟨v,vs',rfl,⟨cs,h1,h2⟩,h3⟩:=h;simp only[fg,aJ,mn]at hf;have h4:=Ct (bx:=bx) (bl:=bl) hf.2 h3;have hrel:=UB (bx:=bx) (bl:=bl) h1;refine⟨?_,h4⟩;obtain⟨t,ag⟩:=a;cases ag with
  |true=>exact⟨cs.toArray,h2,hrel⟩
  |false =>
   have hn:t.n=1:=by
    rcases hf.1 with h|h
    ·cases h
    ·exact aP h
   obtain⟨u,rfl⟩:=Je h1 hn;show bN G w bx bl (match ex f t x.1 with|[c]=>c|_=>.none) v;rw[show v=u from h2]
   revert hrel
   generalize ex f t x.1=l';intro hrel;cases l' with
   |nil=>exact hrel.elim
   |cons c l' =>
    cases l' with
    |nil=>exact hrel.1
    |cons _ _=>exact hrel.2.elim
theorem kE {w:World}{ok ok':Nat->Prop}(h:∀g,ok g->ok' g):∀{ps:List (Ty×Bool)} {x:Args ps} {vs:List Value},eQ w ok ps x vs->eQ w ok' ps x vs
 |[],_,_,hr=>hr
 |a::l,x,vs,hr=>by obtain⟨v,vs',rfl,⟨cs,h1,h2⟩,h3⟩:=hr;exact⟨v,vs',rfl,⟨cs,jr h h1,h2⟩,kE h h3⟩
theorem aFy {rs:List (Ty×Bool)}(F8:fg rs=true){w':World}(h:Inv w0 G st a w)(hB:Below w.heap.size w w'){y:Args rs}{us:List Value}
  (db:∃own:Nat->Option Nat,(∀g j,own g=some j->w.heap.size<=g)/\p7 w' (fun g=>w.heap.size<=g/\own g=none) own rs y 0 us) {d:Tmp} (hc2:Nat.blt d st.nt=true) (hc1:gE (l7 d true rs y 0).2 st=true)
  (hr:(k {(st.put d (I8 (l7 d true rs y 0).1)) with bl:=(l7 d true rs y 0).2++st.bl})=some r) (hK:rW w0 k r K) :
  K (a.put (some d) (fS us)) w':=by
 have hg:w.grownBy w' none:=⟨hB.os,hB.tape,hB.output,hB.size,fun k hk _=>hB.block k hk⟩
 ·obtain⟨own,bH,hfr⟩:=db;obtain⟨L,hF,hcv⟩:=acI (id:=d) (f:=true) F8 hfr;have hq:=hF.q
  let nw:Nat->Option Nat:=fun g=>match own g with
   |some j=>match L.find? (·.1==d*64+j) with
    |some z=>if z.2.2.ownBlock=some g then some z.1 else none
    |none=>none
   |none=>none
  have hnw:∀g id,nw g=some id->∃z∈L,z.1=id/\z.2.2.ownBlock=some g:=by
   intro g id hn;simp only[nw]at hn;split at hn
   ·split at hn
    ·rename_i z hz;split at hn
     ·cases hn;exact⟨z,YL hz,rfl,by assumption⟩
     ·cases hn
    ·cases hn
   ·cases hn
  have aNM:∀z∈L,∀g,z.2.2.ownBlock=some g->nw g=some z.1:=by
   intro z hz g hg;have hb:=(hF.rows z hz).2.2.rS g hg;have hlo:=(hF.rows z hz).1;simp only[nw,hb];have hj:d*64+(z.1-d*64)=z.1:=Nat.add_sub_of_le hlo;rw[hj];cases hf:L.find? (·.1==z.1) with
   |none =>
    have:=al4.1 hf z hz;simp at this
   |some y =>
    have h1:=ahU hf;have h2:=YL hf;have:=hF.uniq y h2 z hz (by simpa using h1);subst this;simp[hg]
  have aNN:∀g,own g=none->nw g=none:=by intro g hg;simp only[nw,hg]
  have hxt:=h.awM none hg (fun g hg=>by cases hg) (l7 d true rs y 0).2 (hvL L) nw (fun g id hn=>by obtain⟨z,hz,_,hzb⟩:=hnw g id hn;exact .inl (bH g _ ((hF.rows z hz).2.2.rS g hzb)))
  have hro:∀g,w.heap.size<=g/\own g=none->RO (G.grow none (l7 d true rs y 0).2 (hvL L) nw) true g:=by
   intro g hg;refine⟨?_,.inl <| h.awE hg.1⟩;have:G.own g=none:=by
    cases ho:G.own g with
    |none=>rfl
    |some k=>have:=(h.own _ _ ho).2.1;omega
   simp[Gh.grow,aNN g hg.2,this]
  obtain⟨hinv,_,hst⟩:=h.grow none hg (fun g hg=>by cases hg) (l7 d true rs y 0).2 (hvL L) nw (fun id hs=>Cs hc1 id hs)
   (fun g id hn=>by
    obtain⟨z,hz,rfl,hzb⟩:=hnw g id hn;obtain⟨h1,h2,h3⟩:=hF.rows z hz;refine⟨by rw[hq];exact kS hz,by rw[Xu hF.uniq hz];exact hzb,?_,.inl (bH g _ (h3.rS g hzb))⟩;obtain⟨rows,ho,_⟩:=h3.row;rcases ho.2 with ⟨he,_⟩|⟨g',cap,cur,he,_,hh,_⟩
    ·rw[he]at hzb;simp[Value.ownBlock]at hzb
    ·rw[he]at hzb;have:g'=g:=by simpa [Value.ownBlock]using hzb
     subst this;exact(AS.1 hh).1)
   (fun id b hb=>by
    have hb0:=hb;rw[hq]at hb;obtain⟨v,hv⟩:=acJ hb;obtain⟨h1,h2,h3⟩:=hF.rows _ hv;have hhv:(G.grow none (l7 d true rs y 0).2 (hvL L) nw).hv id=v:=by
     have:(look (l7 d true rs y 0).2 id).isSome=true:=by rw[hb0];rfl
     simp only[Gh.grow,this,ig];exact Xu hF.uniq hv
    obtain⟨rows,ho,Fg⟩:=h3.row;refine⟨fun _=>⟨rows,?_,?_,?_⟩,fun hw=>?_,h3.pos⟩
    ·rw[hhv];refine⟨ho.1,?_⟩;rcases ho.2 with h4|⟨g',cap,cur,he,Cq,r⟩
     ·exact .inl h4
     ·exact .inr ⟨g',cap,cur,he,aX _,r⟩
    ·rw[hhv];intro g hg;have:=aNM _ hv g hg;simp[Gh.grow,this]
    ·have hf:b.f=true:=by rw[show b.f=_ from h3.nf];rfl
     rw[hf];exact mr hro Fg
    ·have:=h3.wr;rw[show b.w=true from this]at hw;cases hw)
  have hrel:cT (fh (G.grow none (l7 d true rs y 0).2 (hvL L) nw) w' st.bx ((l7 d true rs y 0).2++st.bl)) (l7 d true rs y 0).1 us:=by
   have cell:∀c v,tU L c v->bN (G.grow none (l7 d true rs y 0).2 (hvL L) nw) w' st.bx ((l7 d true rs y 0).2++st.bl) c v:=by
    intro c v hc;cases c with
    |own i len =>
     cases len with
     |some l=>exact hc.elim
     |none =>
      obtain⟨b,hb⟩:=hc;have hs:=kS hb;rw[<-hq]at hs;have hhv:(G.grow none (l7 d true rs y 0).2 (hvL L) nw).hv i=v:=by simp only[Gh.grow,hs,ig];exact Xu hF.uniq hb
      refine⟨?_,?_,hhv.symm⟩
      ·rw[dX];cases hl:look (l7 d true rs y 0).2 i with
       |none=>rw[hl]at hs;cases hs
       |some x=>rfl
      ·rw[hhv];obtain⟨rows,ho,_⟩:=(hF.rows _ hb).2.2.row;rcases ho.2 with ⟨he,_⟩|⟨g',cap,cur,he,_⟩
       ·exact⟨_,_,_,he⟩
       ·exact⟨_,_,_,he⟩
    |int k n=>exact hc
    |bool b=>exact hc
    |str s=>exact hc
    |_=>exact hc.elim
   refine hcv.imp fun c v hc=>?_
   cases c with
   |c x=>exact cell x v hc
   |agg l =>
    obtain⟨cs,he,hl⟩:=hc;exact⟨cs,he,hl.imp cell⟩
  have h2:=hinv.put d (il hc2) (ya (R:=fun _ _=>True) hrel);exact hK _ _ _ _ h2 hr
theorem aB3 {rs:List (Ty×Bool)}(F8:fg rs=true){w':World}(h:Inv w0 G st a w)(hB:Below w.heap.size w w'){y:Args rs}{us:List Value}{f:Bool}{ok:Nat->Prop}
  (db:eQ w' ok rs y us) (dO:∀g,ok g->w.heap.size<=g\/RO G f g) {d:Tmp} (hc2:Nat.blt d st.nt=true)
  (hr:k (st.put d (I8 (exF f rs y)))=some r) (hK:rW w0 k r K) :
  K (a.put (some d) (fS us)) w':=by
 have hg:w.grownBy w' none:=⟨hB.os,hB.tape,hB.output,hB.size,fun k hk _=>hB.block k hk⟩;obtain⟨hinv,hxt,hst⟩:=h.grow none hg (fun g hg=>by cases hg) [] G.hv (fun _=>none) (fun id hs=>by simp[look]at hs) (fun g id hn=>by cases hn) (fun id b hb=>by simp[look]at hb);have hro:∀g,ok g->RO (G.grow none [] G.hv (fun _=>none)) f g:=by
  intro g hg;rcases dO g hg with hg|hg
  ·refine⟨?_,.inl <| h.awE hg⟩;have:G.own g=none:=by
    cases ho:G.own g with
    |none=>rfl
    |some k=>have:=(h.own _ _ ho).2.1;omega
   simp[Gh.grow,this]
  ·exact⟨by simp[Gh.grow,hg.1],hg.2⟩
 have h1:=Ct (G:=G.grow none [] G.hv (fun _=>none)) (bx:=st.bx) (bl:=[]++st.bl) F8 (kE hro db);have h3:=hinv.put d (il hc2) (ya (R:=fun _ _=>True) h1);exact hK _ _ _ _ h3 hr
theorem UL:∀{l:List Nat} {n:Nat},Yd l n=true↔n∈l
 |[],n=>by simp[Yd]
 |x::l,n=>by
  simp only[Yd];split
  ·rename_i hb;have:=aP hb;subst this;simp
  ·rename_i hb;have:n≠x:=by rintro rfl;simp at hb
   rw[UL];simp[this]
def UM:List AC->Nat->Nat->Option Nat
 |[],_,_=>none
 |.own i _::l,id,k=>if i=id then some k else UM l id (k+1)
 |_::l,id,k=>UM l id (k+1)
theorem awP {id:Nat}{len:Option Int}{l:List AC}:∀{pre:List AC} {k:Nat},(∀len,AC.own id len ∉ pre)->UM (pre++.own id len::l) id k=some (k+pre.length)
 |[],k,_=>by simp[UM]
 |c::pre,k,h=>by
  have h2:∀len,AC.own id len ∉ pre:=fun len hm=>h len (by simp[hm])
  have ih:=awP (len:=len) (l:=l) (k:=k+1) h2;have hs:UM ((c::pre)++.own id len::l) id k=UM (pre++.own id len::l) id (k+1):=by
   cases c with
   |own i ln =>
    have:i≠id:=by rintro rfl;exact h ln (by simp)
    simp[UM,this]
   |_=>rfl
  rw[hs,ih];simp;omega
def cS (G:Gh)(all:List AC)(g:Nat):Option Nat:=match G.own g with
 |some (.bl id)=>UM all id 0
 |_=>none
theorem aFz {m:Nat}(hm:m=2\/m=3){okE:Nat->Prop}(hE:∀g,RO G (m2 m) g->okE g)(h:Inv w0 G st a w)(all T:List AC):∀{t:Ty} {pre L L' L'':List AC} {seen:List Nat} {vs:List Value} {x:t.D},all=pre++(L++T)->(∀id len,AC.own id len∈pre->id∈seen)->ij st m seen (L++T)=true ->
  Fc st t L=some L''->im st t L=some (x,L')->cT (bN G w st.bx st.bl) L vs ->
  ∃c1 vs1 vs2 acK,L=c1++L'/\c1.length=t.n/\L''=L'/\vs=vs1++vs2/\FrC w okE (cS G all) t x pre.length vs1/\cT (bN G w st.bx st.bl) L' vs2/\ij st m acK (L'++T)=true/\(∀id len,AC.own id len∈pre++c1->id∈acK)
 |.int k,pre,L,L',L'',seen,vs,x,nZ,UN,dO,gF,hi,hrel=>by
  cases L with
  |nil=>simp[im]at hi
  |cons c L =>
   cases c with
   |int l n =>
    simp only[im]at hi;cases vs with
    |nil=>exact hrel.elim
    |cons v vs =>
     simp only[Fc]at gF;cases gF;have h1:v=.int l n:=hrel.1;split at hi
     ·cases hi;have h2:=aco (by assumption);refine⟨[.int l x],[v],vs,seen,rfl,rfl,rfl,rfl,by rw[h1,h2];rfl,hrel.2,dO,?_⟩;intro id len hm;simp at hm;exact UN id len hm
     ·cases hi
   |_=>simp[im]at hi
 |.bool,pre,L,L',L'',seen,vs,x,nZ,UN,dO,gF,hi,hrel=>by
  cases L with
  |nil=>simp[im]at hi
  |cons c L =>
   cases c with
   |bool b =>
    simp only[im]at hi;cases vs with
    |nil=>exact hrel.elim
    |cons v vs =>
     simp only[Fc]at gF;cases gF;have h1:v=.bool b:=hrel.1;cases hi;refine⟨[.bool x],[v],vs,seen,rfl,rfl,rfl,rfl,by rw[h1];rfl,hrel.2,dO,?_⟩;intro id len hm;simp at hm;exact UN id len hm
   |_=>simp[im]at hi
 |.str,pre,L,L',L'',seen,vs,x,nZ,UN,dO,gF,hi,hrel=>by
  cases L with
  |nil=>simp[im]at hi
  |cons c L =>
   cases c with
   |str b =>
    simp only[im]at hi;cases vs with
    |nil=>exact hrel.elim
    |cons v vs =>
     simp only[Fc]at gF;cases gF;have h1:v=.string b:=hrel.1;cases hi;refine⟨[.str x],[v],vs,seen,rfl,rfl,rfl,rfl,by rw[h1];rfl,hrel.2,dO,?_⟩;intro id len hm;simp at hm;exact UN id len hm
   |_=>simp[im]at hi
 |.unit,pre,L,L',L'',seen,vs,x,nZ,UN,dO,gF,hi,hrel=>by simp only[im]at hi;cases hi;simp only[Fc]at gF;cases gF;exact⟨[],[],vs,seen,rfl,rfl,rfl,rfl,rfl,hrel,dO,by simpa using UN⟩
 |.pair p q,pre,L,L',L'',seen,vs,x,nZ,UN,dO,gF,hi,hrel=>by
  simp only[im]at hi;split at hi
  ·rename_i y r1 hy;split at hi
   ·rename_i z r2 hz;cases hi;simp only[Fc]at gF;split at gF
    ·rename_i r1' hr1;obtain⟨c1,vs1,vs2,aPm,h1,h2,h3,h4,h5,h6,h7,h8⟩:=aFz hm hE h all T nZ UN dO hr1 hy hrel;subst h3;obtain⟨c2,vs3,vs4,aJi,h9,Sf,h11,h12,h13,h14,h15,h16⟩:=aFz hm hE h all T (pre:=pre++c1) (by rw[nZ,h1,jZ,jZ]) h8 h7 gF hz h6;refine⟨c1++c2,vs1++vs3,vs4,aJi,by rw[h1,h9,jZ],by simp[Ty.n,h2,Sf],h11,by rw[h4,h12,jZ],⟨vs1,vs3,rfl,h5,?_⟩,h14,h15,by rw[<-jZ];exact h16⟩;rw[aT,h2]at h13;exact h13
    ·cases gF
   ·cases hi
  ·cases hi
 |.sl e t,pre,L,L',L'',seen,vs,x,nZ,UN,dO,gF,hi,hrel=>by
  cases L with
  |nil=>simp[im]at hi
  |cons c L =>
   simp only[im]at hi;split at hi
   ·rename_i xs hxs;cases hi;cases vs with
    |nil=>exact hrel.elim
    |cons v vs =>
     cases c with
     |own id len =>
      simp only[F5,ij]at dO;split at dO
      ·rename_i b hb;have aFb:((b.f=true\/m=0)\/m=3)/\b.w=true/\(!Yd seen id)=true/\len.isNone=true/\ij st m (id::seen) (L'++T)=true:=by
        have hlen:∀l:Option Int,(match l with|none=>true|some _=>false)=true->l.isNone=true:=by
         intro l hl;cases l with
         |none=>rfl
         |some _=>cases hl
        rcases hm with rfl|rfl
        ·simp only[aJ,mn]at dO;exact⟨.inl (.inl (dO.1.1.elim (fun h=>h.elim (fun h=>h) (fun h=>by cases h)) (fun h=>by cases h))),dO.1.2.1.1,dO.1.2.1.2,hlen _ dO.1.2.2,dO.2⟩
        ·simp only[aJ]at dO;exact⟨.inr rfl,dO.1.2.1.1,dO.1.2.1.2,hlen _ dO.1.2.2,dO.2⟩
       obtain⟨hf,hw,hns,hlen,aJ4⟩:=aFb;have hf:m2 m=true->b.f=true:=by
        intro h2;have:m=2:=aP h2;rcases hf with (h|h)|h
        ·exact h
        ·omega
        ·omega
       cases len with
       |some l=>simp at hlen
       |none =>
        simp only[Fc,hb]at gF;split at gF
        ·rename_i he;cases gF;have he:=aP he;simp only[de,hb]at hxs;split at hxs
         ·rename_i ht;have hxs:=fQ hxs;have hbo:=h.bl id b (fi hb);obtain⟨rows,h1,h2,h3⟩:=hbo.wr hw;have aqE:=hbo.pos;obtain⟨be,bt,bxs,bf,bw⟩:=b;dsimp only at *;have hte:=Ty.beq_eq ht;subst hte;subst he;have hxs:bxs=x:=hxs;subst hxs;have aNQ:∀len,AC.own id len ∉ pre:=by intro len hm;have:=UN id len hm;rw[<-UL]at this;rw[this]at hns;cases hns
          have aLO:UM all id 0=some pre.length:=by rw[nZ,F5,awP aNQ,xf]
          refine⟨[.own id none],[v],vs,id::seen,rfl,rfl,rfl,rfl,⟨v,rows,rfl,aqE,?_,?_,?_⟩,hrel.2,aJ4,?_⟩
          ·rw[hrel.1.2.2];exact h1
          ·intro g hg;rw[hrel.1.2.2]at hg;simp only[cS,h2 g hg,aLO]
          ·exact mr (fun g hg=>hE g (RO.Ea hf hg)) h3
          ·intro i ln hm;rcases lX.1 hm with hm|hm
           ·exact tI _ (UN i ln hm)
           ·simp at hm;rw[hm.1];simp
         ·cases hxs
        ·cases gF
      ·cases dO
     |nil =>
      simp only[de]at hxs;cases hxs;simp only[Fc]at gF;split at gF
      ·cases gF
      ·rename_i hn;cases gF;have h1:v=.slice none 0 0:=hrel.1;refine⟨[.nil],[v],vs,seen,rfl,rfl,rfl,rfl,⟨v,[],rfl,?_,?_,?_,?_⟩,hrel.2,dO,?_⟩
       ·cases hz:t.n with
        |zero=>rw[hz]at hn;simp at hn
        |succ n=>omega
       ·rw[h1];exact⟨by simp,.inl ⟨rfl,rfl⟩⟩
       ·intro g hg;rw[h1]at hg;simp[Value.ownBlock]at hg
       ·intro j x hj;simp at hj
       ·intro i ln hm;simp at hm;exact UN i ln hm
     |ro f e' t' xs'=>rcases hm with rfl|rfl<;>simp[ij]at dO
     |_=>simp[de]at hxs
   ·cases hi
theorem Hb {m:Nat}(hm:m=2\/m=3){okE:Nat->Prop}(hE:∀g,RO G (m2 m) g->okE g)(h:Inv w0 G st a w)(all T:List AC):∀(rs:List (Ty×Bool)) (l:List CV) (us:List Value) (r:Args rs) {pre:List AC} {seen:List Nat},cT (fh G w st.bx st.bl) l us->all=pre++(aU l++T)->(∀id len,AC.own id len∈pre->id∈seen) ->
  ij st m seen (aU l++T)=true->x4 st rs l=true->Bn st rs l=some r->p7 w okE (cS G all) rs r pre.length us/\∃acK,ij st m acK T=true/\(∀id len,AC.own id len∈pre++aU l->id∈acK)/\(aU l).length=nOf rs
 |[],[],[],r,_,seen,_,_,hp,hk,_,_=>⟨rfl,seen,hk,by simpa [aU]using hp,rfl⟩
 |_,[],_::_,_,_,_,hr,_,_,_,_,_=>hr.elim
 |_,_::_,[],_,_,_,hr,_,_,_,_,_=>hr.elim
 |[],_::_,_::_,_,_,_,_,_,_,_,_,hi=>by simp[Bn]at hi
 |_::_,[],[],_,_,_,_,_,_,_,_,hi=>by simp[Bn]at hi
 |p::rs,o::l,v::us,r,pre,seen,hr,nZ,UN,dO,gF,hi=>by
  simp only[Bn]at hi;split at hi
  ·rename_i x hx;split at hi
   ·rename_i y hy;cases hi;simp only[x4,aJ]at gF;obtain⟨aJj,aJa⟩:=gF;have hr1:Fc st p.1 o.cells=some []:=by
     split at aJj
     ·assumption
     ·cases aJj
    have Q3:=hr.1;have hcells:∃vs,im st p.1 o.cells=some (x,[])/\cT (bN G w st.bx st.bl) o.cells vs/\v=(match p.2 with|true=>.agg vs.toArray|false=>vs.headD undef):=by
     unfold imV at hx;split at hx
     ·rename_i cs hp;split at hx
      ·rename_i z hz;cases hx;obtain⟨vs,hv,hrel⟩:=Q3;refine⟨vs.toList,hz,hrel,by rw[hp,hv,xW]⟩
      ·cases hx
     ·rename_i c hp;split at hx
      ·rename_i z hz;cases hx;exact⟨[v],hz,⟨Q3,trivial⟩,by rw[hp];rfl⟩
      ·cases hx
     ·cases hx
    obtain⟨vs,him,hrel,acL⟩:=hcells;have hL:aU (o::l)=o.cells++aU l:=rfl;rw[hL,jZ]at nZ dO;obtain⟨c1,vs1,vs2,aJi,h1,h2,h3,h4,h5,h6,h7,h8⟩:=aFz hm hE h all (aU l++T) nZ UN dO hr1 him hrel;rw[ie]at h1;cases vs2 with
    |cons _ _=>exact h6.elim
    |nil =>
     rw[ie]at h4;subst h4;obtain⟨h9,acK,Sf,h11,h12⟩:=Hb hm hE h all T rs l us y (pre:=pre++o.cells) hr.2 (by rw[nZ,jZ]) (by rw[h1];exact h8) h7 aJa hy;rw[aT,h1,h2]at h9;refine⟨⟨v,us,rfl,⟨vs,h5,acL⟩,h9⟩,acK,Sf,?_,?_⟩
     ·rw[hL,<-jZ];exact h11
     ·rw[hL,aT,h12,h1,h2];rfl
   ·cases hi
  ·cases hi
end
end Go.Am
